/- Trees as bits and texts read back: the walks and the laws (several texts joined by a program). -/
import Derived.Test.YtlhaofbncoijfaaMathBitsA
import Derived.Test.YtlhaofbncoijfaaRefBase
import Derived.Test.YtlhaofbncoijfaaX0
import Derived.Test.YtlhaofbncoijfaaKids
import Derived.Test.YtlhaofbncoijfaaBlocks
import Derived.LoopN
import Derived.Lib.Hide
import Derived.Deep.RegionWith
import Derived.Lib.IndexBytes
import Derived.Test.YtlhaofbncoijfaaHandH
import Derived.Deep.RegionHeld3
namespace Go.Proofs.Ytlhaofbncoijfaa.Math
set_option linter.unusedVariables false
set_option linter.unusedSimpArgs false
open Go.RowKit Go.Proofs.Ytlhaofbncoijfaa.X Go.Proofs.Ytlhaofbncoijfaa.HandF Go.Proofs.Ytlhaofbncoijfaa.Hand Go.Proofs.Ytlhaofbncoijfaa.Tree
open Go.Proofs.YtlhaofbncoijfaaW.PrintWords Go.Proofs.YtlhaofbncoijfaaW.PrintLast Go.Proofs.YtlhaofbncoijfaaW.PrintMore
/-- A tree's bits. -/
def bitsT : T → List Bool
  | .leaf b => [false, b]
  | .node a b => [true] ++ bitsT a ++ bitsT b
theorem bitsT_length : ∀ t : T, (bitsT t).length ≤ 2 * t.count
  | .leaf b => by simp [bitsT, T.count]
  | .node a b => by
    have := bitsT_length a
    have := bitsT_length b
    simp [bitsT, T.count]
    omega
theorem highs12 : highs 1 2 = [false, true] := by decide +kernel
theorem highs02 : highs 0 2 = [false, false] := by decide +kernel
theorem highs11 : highs 1 1 = [true] := by decide +kernel
/-- A row with bits behind it. -/
abbrev addB (L : List Bool) (l : List Int) (m : Nat) : List Int × Int := L.foldl stepB (l, (m : Int))
theorem add_row {l : List Int} {m : Nat} (L : List Bool) (h : Row l m) : ∃ l', addB L l m = (l', ((m + L.length : Nat) : Int)) ∧ Row l' (m + L.length) ∧ l'.length ≤ l.length + L.length := by
  obtain ⟨l', e, r, _⟩ := row_fold L h
  have h1 := h.len
  have h2 := r.len
  exact ⟨l', e, r, by omega⟩
theorem addB_append (L M : List Bool) (l : List Int) (m : Nat) : (L ++ M).foldl stepB (l, (m : Int)) = M.foldl stepB (addB L l m) := List.foldl_append
theorem put_small {l : List Int} {m : Nat} (h : Row l m) (v w : Nat) (hw : w ≤ 64) (hv : Lib.bitLen v ≤ w) :
    putRes l (m : Int) (v : Int) (w : Int) = (((highs v w).foldl stepB (l, (m : Int))).1, ((highs v w).foldl stepB (l, (m : Int))).2, 0) := by
  unfold putRes
  rw [if_pos ⟨h.right, by omega, by omega, by rw [Int.toNat_natCast]; omega⟩, Int.toNat_natCast]
theorem put12 {l : List Int} {m : Nat} (h : Row l m) : putRes l (m : Int) 1 2 = ((addB [false, true] l m).1, (addB [false, true] l m).2, 0) := by
  have := put_small h 1 2 (by decide) (by decide)
  rw [← highs12]; exact this
theorem put02 {l : List Int} {m : Nat} (h : Row l m) : putRes l (m : Int) 0 2 = ((addB [false, false] l m).1, (addB [false, false] l m).2, 0) := by
  have := put_small h 0 2 (by decide) (by decide)
  rw [← highs02]; exact this
theorem put11 {l : List Int} {m : Nat} (h : Row l m) : putRes l (m : Int) 1 1 = ((addB [true] l m).1, (addB [true] l m).2, 0) := by
  have := put_small h 1 1 (by decide) (by decide)
  rw [← highs11]; exact this
theorem small_i64 {l : List Int} {m : Nat} (h : Row l m) (hl : l.length ≤ 140737488355328) : -9223372036854775808 ≤ (m : Int) ∧ (m : Int) ≤ 9223372036854775807 := by
  have := h.len
  omega
/-- The reference's lay. -/
theorem lay_ev : ∀ (t : T) {l : List Int} {m : Nat}, Row l m → m + (bitsT t).length + 80 ≤ 1125899906842624 →
    Ev (fun k => pannierref04_lay.f k l (m : Int) t.toS.f0 t.toS.f1) ((addB (bitsT t) l m).1, (addB (bitsT t) l m).2)
  | .leaf b, l, m, h, hl => by
    have hlen0 := h.len
    obtain ⟨n0, n1⟩ := small_i64 h (by omega)
    cases b
    · obtain ⟨k0, hk⟩ := refput_res (v := 0) (w := 2) h.bytes (by omega) n0 n1 (by decide) (by decide)
      refine ⟨k0 + 1, fun k hkk => ?_⟩
      obtain ⟨j, rfl⟩ : ∃ j, k = j + 1 := ⟨k - 1, by omega⟩
      have := hk j (by omega)
      dsimp only at this ⊢
      rw [pannierref04_lay.f, this, put02 h]
      rfl
    · obtain ⟨k0, hk⟩ := refput_res (v := 1) (w := 2) h.bytes (by omega) n0 n1 (by decide) (by decide)
      refine ⟨k0 + 1, fun k hkk => ?_⟩
      obtain ⟨j, rfl⟩ : ∃ j, k = j + 1 := ⟨k - 1, by omega⟩
      have := hk j (by omega)
      dsimp only at this ⊢
      rw [pannierref04_lay.f, this, put12 h]
      rfl
  | .node a b, l, m, h, hl => by
    have hlen : (bitsT (.node a b)).length = 1 + (bitsT a).length + (bitsT b).length := by simp [bitsT]; omega
    have hlen0 := h.len
    obtain ⟨n0, n1⟩ := small_i64 h (by omega)
    obtain ⟨k0, hk0⟩ := refput_res (v := 1) (w := 1) h.bytes (by omega) n0 n1 (by decide) (by decide)
    obtain ⟨l1, e1, r1, s1⟩ := add_row [true] h
    rw [put11 h, e1] at hk0
    simp only [List.length_cons, List.length_nil] at e1 r1 s1 hk0
    obtain ⟨k1, hk1⟩ := lay_ev a r1 (by omega)
    obtain ⟨l2, e2, r2, s2⟩ := add_row (bitsT a) r1
    rw [e2] at hk1
    obtain ⟨k2, hk2⟩ := lay_ev b r2 (by omega)
    have hT : (bitsT (.node a b)).foldl stepB (l, (m : Int)) = (bitsT b).foldl stepB (l2, ((m + (0 + 1) + (bitsT a).length : Nat) : Int)) := by
      show ([true] ++ bitsT a ++ bitsT b).foldl stepB (l, (m : Int)) = _
      rw [List.foldl_append, List.foldl_append]
      have e1' : List.foldl stepB (l, (m : Int)) [true] = _ := e1
      have e2' : List.foldl stepB (l1, ((m + (0 + 1) : Nat) : Int)) (bitsT a) = _ := e2
      rw [e1', e2']
    rw [show addB (bitsT (.node a b)) l m = _ from hT]
    refine ⟨max k0 (max k1 k2) + 1, fun k hkk => ?_⟩
    obtain ⟨j, rfl⟩ : ∃ j, k = j + 1 := ⟨k - 1, by omega⟩
    have q0 := hk0 j (by omega)
    have q1 := hk1 j (by omega)
    have q2 := hk2 j (by omega)
    dsimp only at q0 q1 q2 ⊢
    have f0 : rd_T24 (T.node a b).toS.f1 0 = a.toS := rfl
    have f1 : rd_T24 (T.node a b).toS.f1 1 = b.toS := rfl
    have g0 : (0 : Int) < ((T.node a b).toS.f1.length : Int) := by show (0 : Int) < ((2 : Nat) : Int); decide
    have g1 : (1 : Int) < ((T.node a b).toS.f1.length : Int) := by show (1 : Int) < ((2 : Nat) : Int); decide
    rw [pannierref04_lay.f, if_pos (show ((T.node a b).toS.f1.length : Int) = 2 from rfl), q0, Option.bind_some, if_pos g0, f0, f1]
    dsimp only
    rw [q1, Option.bind_some, if_pos g1]
    dsimp only
    rw [q2, Option.bind_some]
/-- The bits of a node as it comes. -/
def nodeBits (s : S24) : List Bool := if s.f1.length = 0 then [false, s.f0] else [true]
theorem nodesL_bits : ∀ (t : T) (m : Nat) (d : Int), t.depth < m → (nodesL m d t.toS).flatMap (fun x => nodeBits x.2) = bitsT t
  | .leaf b, m + 1, d, h => by
    simp [nodesL, T.toS, nodeBits, bitsT]
  | .node a b, m + 1, d, h => by
    have hd : a.depth < m ∧ b.depth < m := by simp [T.depth] at h; omega
    have ha := nodesL_bits a m (d + 1) hd.1
    have hb := nodesL_bits b m (d + 1) hd.2
    simp only [nodesL, T.toS, List.flatMap_cons, List.map_cons, List.map_nil, List.flatten_cons, List.flatten_nil, List.append_nil, List.flatMap_append, ha, hb]
    simp [nodeBits, bitsT]
/-- What Lay hands back. -/
def LayS (l : List Int) (n : Int) (s : S24) : List Int × Int × Int :=
  if rightB l n = true ∧ HandF.rightB s = true then (match T.ofS s with | some t => ((addB (bitsT t.norm) l n.toNat).1, (addB (bitsT t.norm) l n.toNat).2, 0) | none => ([], 0, 2)) else ([], 0, 2)
theorem LayS_good {l : List Int} {m : Nat} {t : T} (h : rightB l (m : Int) = true) (ht : t.right) : LayS l (m : Int) t.toS = ((addB (bitsT t.norm) l m).1, (addB (bitsT t.norm) l m).2, 0) := by
  unfold LayS
  rw [if_pos ⟨h, by rw [right_T]; exact decide_eq_true ht⟩, T.of_toS, Int.toNat_natCast]
theorem LayS_bad {l : List Int} {n : Int} {s : S24} (h : (rightB l n && HandF.rightB s) = false) : LayS l n s = ([], 0, 2) := by
  unfold LayS
  rw [if_neg (fun e => by rw [e.1, e.2] at h; cases h)]
end Go.Proofs.Ytlhaofbncoijfaa.Math
namespace Go.Proofs.Ytlhaofbncoijfaa.X
open Go.RowKit Go.Proofs.YtlhaofbncoijfaaW.PrintWords Go.Proofs.YtlhaofbncoijfaaW.PrintLast Go.Proofs.YtlhaofbncoijfaaW.PrintMore Go.Proofs.Ytlhaofbncoijfaa.HandF
attribute [local go_sem] max2_int min2_int max_two min_two max_three min_three max_four min_four   -- for this text's walks alone
set_option linter.unusedVariables false
set_option linter.unusedSimpArgs false

/-! ### id_take: function 58 -/
mutual
def id_take.j0 : Nat → List Int → Int → Int → Int → Int → Bool → Option (Bool × (List (S24)) × Int)
  | 0, _, _, _, _, _, _ => none
  | k + 1, x0, x1, x2, x3, x10, x29 => if x29 = true then (some (false, ([] : List (S24)), (-1))) else (if x10 = 0 then ((bits_Take.f k x0 x1 (wrap64 (x2 + 1)) 1).bind fun bt529 => (if bt529.2 = 0 then (some ((bt529.1 == 1), ([] : List (S24)), wrap64 (x2 + 2))) else (some (false, ([] : List (S24)), (-1))))) else (id_take.l0 k x0 x1 (wrap64 (x2 + 1)) x3 ([] : List (S24)) 0))
def id_take.l0 : Nat → List Int → Int → Int → Int → List (S24) → Int → Option (Bool × (List (S24)) × Int)
  | 0, _, _, _, _, _, _ => none
  | k + 1, x0, x1, x2, x3, x14, x51 => if x51 < 2 then ((id_take.f k x0 x1 x2 (wrap64 (x3 - 1))).bind fun bt531 => (if bt531.2.2 < 0 then (some (false, ([] : List (S24)), (-1))) else (if x14.length < 4398046511104 then (id_take.l0 k x0 x1 bt531.2.2 x3 (x14 ++ [(⟨bt531.1, bt531.2.1⟩ : S24)]) (wrap64 (x51 + 1))) else (none)))) else (some (false, x14, x2))
def id_take.f : Nat → List Int → Int → Int → Int → Option (Bool × (List (S24)) × Int)
  | 0, _, _, _, _ => none
  | k + 1, l0, a1, a2, a3 => (bits_Take.f k l0 a1 a2 1).bind fun bt527 => (if bt527.2 = 0 then (id_take.j0 k l0 a1 a2 a3 bt527.1 (decide (a3 < 0))) else (id_take.j0 k l0 a1 a2 a3 bt527.1 true))
end
theorem id_take.mono_l : ∀ k, (∀ y0 y1 y2 y3, LeO (id_take.f k y0 y1 y2 y3) (id_take.f (k + 1) y0 y1 y2 y3)) ∧ (∀ y0 y1 y2 y3 y4 y5, LeO (id_take.j0 k y0 y1 y2 y3 y4 y5) (id_take.j0 (k + 1) y0 y1 y2 y3 y4 y5)) ∧ (∀ y0 y1 y2 y3 y4 y5, LeO (id_take.l0 k y0 y1 y2 y3 y4 y5) (id_take.l0 (k + 1) y0 y1 y2 y3 y4 y5))
  | 0 => ⟨fun _ _ _ _ r h => by simp [id_take.f] at h, fun _ _ _ _ _ _ r h => by simp [id_take.j0] at h, fun _ _ _ _ _ _ r h => by simp [id_take.l0] at h⟩
  | k + 1 => by
    obtain ⟨ih0, ih1, ih2⟩ := id_take.mono_l k
    refine ⟨?_, ?_, ?_⟩
    · intro y0 y1 y2 y3
      unfold id_take.f
      repeat' first
      | (with_reducible exact ih0 _ _ _ _)
      | (with_reducible exact ih1 _ _ _ _ _ _)
      | (with_reducible exact ih2 _ _ _ _ _ _)
      | (with_reducible exact bits_Take.mono _ _ _ _ _)
      | (with_reducible exact LeO.refl _)
      | (with_reducible exact LeO.none _)
      | (with_reducible refine LeO.ite ?_ ?_)
      | (with_reducible refine LeO.bind ?_ (fun _ => ?_))
      | exact ih0 _ _ _ _
      | exact ih1 _ _ _ _ _ _
      | exact ih2 _ _ _ _ _ _
      | exact bits_Take.mono _ _ _ _ _
      | exact LeO.none _
      | refine LeO.ite ?_ ?_
      | refine LeO.bind ?_ (fun _ => ?_)
    · intro y0 y1 y2 y3 y4 y5
      unfold id_take.j0
      repeat' first
      | (with_reducible exact ih0 _ _ _ _)
      | (with_reducible exact ih1 _ _ _ _ _ _)
      | (with_reducible exact ih2 _ _ _ _ _ _)
      | (with_reducible exact bits_Take.mono _ _ _ _ _)
      | (with_reducible exact LeO.refl _)
      | (with_reducible exact LeO.none _)
      | (with_reducible refine LeO.ite ?_ ?_)
      | (with_reducible refine LeO.bind ?_ (fun _ => ?_))
      | exact ih0 _ _ _ _
      | exact ih1 _ _ _ _ _ _
      | exact ih2 _ _ _ _ _ _
      | exact bits_Take.mono _ _ _ _ _
      | exact LeO.none _
      | refine LeO.ite ?_ ?_
      | refine LeO.bind ?_ (fun _ => ?_)
    · intro y0 y1 y2 y3 y4 y5
      unfold id_take.l0
      repeat' first
      | (with_reducible exact ih0 _ _ _ _)
      | (with_reducible exact ih1 _ _ _ _ _ _)
      | (with_reducible exact ih2 _ _ _ _ _ _)
      | (with_reducible exact bits_Take.mono _ _ _ _ _)
      | (with_reducible exact LeO.refl _)
      | (with_reducible exact LeO.none _)
      | (with_reducible refine LeO.ite ?_ ?_)
      | (with_reducible refine LeO.bind ?_ (fun _ => ?_))
      | exact ih0 _ _ _ _
      | exact ih1 _ _ _ _ _ _
      | exact ih2 _ _ _ _ _ _
      | exact bits_Take.mono _ _ _ _ _
      | exact LeO.none _
      | refine LeO.ite ?_ ?_
      | refine LeO.bind ?_ (fun _ => ?_)
theorem id_take.mono : ∀ a0 a1 a2 a3 k, LeO (id_take.f k a0 a1 a2 a3) (id_take.f (k + 1) a0 a1 a2 a3) := by
  intro a0 a1 a2 a3 k
  obtain ⟨ih0, ih1, ih2⟩ := id_take.mono_l k
  exact ih0 a0 a1 a2 a3
set_option maxHeartbeats 8000000 in
set_option maxRecDepth 100000 in
theorem id_take.calls (k : Nat) : ∀ (A0 : Option Addr) (c0 : Nat) (l0 : List Int) (a1 : Int) (a2 : Int) (a3 : Int) (r1 : Bool) (r2 : List (S24)) (r3 : Int) (w : World) (hr0 : Kd.C (Kd.int .u8) w A0 l0.length l0) (hc0 : l0.length ≤ c0) (h : id_take.f k l0 a1 a2 a3 = some (r1, r2, r3)),
    Calls Try.prog 58 #[.slice A0 l0.length c0, .int .i64 a1, .int .i64 a2, .int .i64 a3] w fun e w' => ∃ v1_ : Value, e = .returned (.tuple #[.agg #[.bool r1, v1_], .int .i64 r3]) ∧ Kd.R k24 24 w' w.heap.size (fun _ => True) v1_ r2 ∧ Below w.heap.size w w' := by
  induction k using Nat.strongRecOn with
  | _ k ih =>
  intro A0 c0 l0 a1 a2 a3 r1 r2 r3 w hr0 hc0 h
  cases k with
  | zero => exact absurd h (by simp [id_take.f])
  | succ k =>
  simp only [id_take.f] at h
  have hu24 := Try.underlying24
  have HR0 := Aside0.mk hr0
  have HC0 := Aside0.mk hc0
  clear hr0 hc0
  have HB := Aside0.mk (Below.refl w.heap.size w)
  have H : ((bits_Take.f k l0 a1 a2 1).bind fun bt527 => (if bt527.2 = 0 then (id_take.j0 k l0 a1 a2 a3 bt527.1 (decide (a3 < 0))) else (id_take.j0 k l0 a1 a2 a3 bt527.1 true))) = some (r1, r2, r3) := h
  clear h
  replace H := Option.bind_eq_some_iff.mp H
  obtain ⟨⟨t527, t528⟩, A50, H⟩ := H
  replace H : (if t528 = 0 then (id_take.j0 k l0 a1 a2 a3 t527 (decide (a3 < 0))) else (id_take.j0 k l0 a1 a2 a3 t527 true)) = some (r1, r2, r3) := H
  have A5 := Aside0.mk A50
  clear A50
  have HC6 := Aside0.mk H
  clear H
  go_enter Try.func58, Try.ntmps58
  go_upto_region 2 with (first | ((with_reducible refine gate_dst (N := 8) rfl ?_); refine box_event ?hg (N := 8) ?hd (cs := #[.bool false, .slice none 0 0]) (t := 24) ?hr ?_; (case hd => rfl); (case hg => rfl); (case hr => first | (go_simp; done) | (go_simp; rfl)); intro gb526 hg w7 hbox hb; have n0_ := Aside0.mk (below_step (by repeat (first | (with_reducible first | exact HB.out | apply below_alloc | apply pw_below_drewN | apply below_drew1) | exact HB.out)) hb); have n1_ := Aside0.mk (hbox); have n2_ := Aside0.mk ((by rw [hg]; exact (below_size (by repeat (first | (with_reducible first | exact HB.out | apply below_alloc | apply pw_below_drewN | apply below_drew1) | exact HB.out))) : w.heap.size ≤ gb526)); have n3_ := Aside0.mk ((by rw [hg]; exact (below_size (by repeat (first | (with_reducible first | exact HB.out | apply below_alloc | apply pw_below_drewN | apply below_drew1) | exact HB.out))) : w.heap.size ≤ gb526)); clear HB; have HB := n0_; have BK526 := n1_; have GW526 := n2_; have GE526 := n3_; clear n0_ n1_ n2_ n3_; clear hb hbox hg) | ((with_reducible refine gate_callee (f := 75) rfl ?_); refine goesL_ (some 21) rfl rfl Try.func75 (by kernel_rfl) rfl #[.slice A0 l0.length c0, .int .i64 a1, .int .i64 a2, .int .i64 1] rfl (by (try simp only [List.map_toArray, List.map_cons, List.map_nil]); first | done | rfl | (simp only [List.length_drop, List.length_take]; rfl)) ?_; (with_reducible refine (bits_Take.calls k _ _ l0 a1 a2 1 t527 t528 _ ?side1 ?side2 A5.out).mono ?_); (case side1 => repeat (first | exact (Kd.C_below HR0.out HB.out) | (with_reducible refine Kd.C_alloc ?_ _) | (with_reducible refine Kd.C_drewN ?_ _) | (with_reducible refine Kd.C_drew ?_))); (case side2 => exact HC0.out); rintro e w' ⟨rfl, ⟨nd, rfl⟩⟩; refine ⟨_, rfl, ?_⟩))
  (try simp only [Act.put, List.setIfInBounds_toArray, List.set_cons_zero, List.set_cons_succ])
  go_cut [29] (fun v29 wc => ∃ (kq : Nat) (x29_5 : Bool), v29 = .bool x29_5 ∧ Aside0 (id_take.j0 kq l0 a1 a2 a3 t527 x29_5 = some (r1, r2, r3)) ∧ Aside0 (kq ≤ k) ∧ Aside0 (wc.heap[gb526]? = some (.cells #[.bool false, (.slice none 0 0)] 24 (0, 0))) ∧ Aside0 (Below w.heap.size w wc))
  case first =>
    have H := HC6.out
    clear HC6
    by_cases c8 : t528 = 0
    · rw [if_pos c8] at H
      have c8b0 : (t528 == 0) = true := beq_iff_eq.mpr c8
      have c8b1 : (t528 != 0) = false := bne_eq_false_iff_eq.mpr c8
      clear c8
      (first | rw [c8b0] | (simp only [i64_w, i32_w]; rw [c8b0]) | skip)
      have H' := Aside0.mk H
      clear H
      go_wp2
      go_meet
      case rel => exact ⟨_, (decide (a3 < 0)), (by first | rfl | (simp; done) | (simp [*]; done)), H', ⟨by first | omega | exact Nat.le_refl _⟩, ⟨by (with_reducible repeat (first | refine blk_drewN ?_ _ | refine blk_drew ?_ | refine blk_alloc ?_ _)); exact BK526.out⟩, ⟨by repeat (first | (with_reducible first | exact HB.out | apply below_alloc | apply pw_below_drewN | apply below_drew1 | refine below_set ?_ GE526.out) | exact HB.out)⟩⟩
    · rw [if_neg c8] at H
      have c8b0 : (t528 == 0) = false := beq_eq_false_iff_ne.mpr c8
      have c8b1 : (t528 != 0) = true := bne_iff_ne.mpr c8
      (first | rw [c8b0] | (simp only [i64_w, i32_w]; rw [c8b0]) | skip)
      have H' := Aside0.mk H
      clear H
      go_wp2
      go_meet
      case rel => exact ⟨_, (true), (by first | rfl | (simp; done) | (simp [*]; done)), H', ⟨by first | omega | exact Nat.le_refl _⟩, ⟨by (with_reducible repeat (first | refine blk_drewN ?_ _ | refine blk_drew ?_ | refine blk_alloc ?_ _)); exact BK526.out⟩, ⟨by repeat (first | (with_reducible first | exact HB.out | apply below_alloc | apply pw_below_drewN | apply below_drew1 | refine below_set ?_ GE526.out) | exact HB.out)⟩⟩
  case rest =>
    clear HC6
    try clear p2
    try clear c5
    try clear c7
    try clear c8
    try clear c8b0
    try clear c8b1
    obtain ⟨kq, x29_5, rfl, HA, HJ5, BK526, HB⟩ := hcut
    cases kq with
    | zero => exact absurd HA.out (by simp [id_take.j0])
    | succ kj5 =>
      have H := HA.out
      clear HA
      simp only [id_take.j0] at H
      by_cases c9 : x29_5 = true
      · subst c9
        have H1 : (some (false, ([] : List (S24)), (-1))) = some (r1, r2, r3) := by rw [if_pos rfl] at H; exact H
        clear H
        have H := H1
        clear H1
        simp only [Option.some.injEq, Prod.mk.injEq] at H
        obtain ⟨rfl, rfl, rfl⟩ := H
        have hcz10_0 : wc.cell? ⟨gb526, 0, none⟩ = some (.bool false) := (blk_cell BK526.out 0).trans rfl
        have hcz10_1 : wc.cell? ⟨gb526, 1, none⟩ = some (.slice none 0 0) := (blk_cell BK526.out 1).trans rfl
        have hfz10_0 := blk_frozen BK526.out 0
        have hfz10_1 := blk_frozen BK526.out 1
        go_wp2
        refine bodyPost_ret (results_ct rfl _ _ gb526 24 #[.bool false, .slice none 0 0] (0, 0) _ rfl (by (with_reducible repeat (first | refine blk_drewN ?_ _ | refine blk_drew ?_ | refine blk_alloc ?_ _)); refine blk_put (cs := #[.bool false, .slice none 0 0]) ?_ 1 _ rfl; (with_reducible repeat (first | refine blk_drewN ?_ _ | refine blk_drew ?_ | refine blk_alloc ?_ _)); refine blk_put (cs := #[.bool false, .slice none 0 0]) ?_ 0 _ rfl; (with_reducible repeat (first | refine blk_drewN ?_ _ | refine blk_drew ?_ | refine blk_alloc ?_ _)); exact BK526.out) Try.underlying24 rfl (by kernel_rfl)) rfl ?_
        exact ⟨_, by first | rfl | (simp [errW_none, errW_some] <;> rfl) | (simp [*, errW_none, errW_some] <;> rfl), by first | exact Kd.R_nil _ _ _ _ _ | exact Kd.N_nil _ _ _ _ _ | exact Kd.V_nil _ _ _ _ _ | exact Kd.Q_nil _ _ _ _ _ | exact Kd.S_nil _ _ _ _ _, by repeat (first | (with_reducible first | exact HB.out | apply below_alloc | apply pw_below_drewN | apply below_drew1 | refine below_set ?_ GE526.out) | exact HB.out)⟩
      · replace c9 := Bool.eq_false_iff.mpr c9
        subst c9
        have H1 : (if t527 = 0 then ((bits_Take.f kj5 l0 a1 (wrap64 (a2 + 1)) 1).bind fun bt529 => (if bt529.2 = 0 then (some ((bt529.1 == 1), ([] : List (S24)), wrap64 (a2 + 2))) else (some (false, ([] : List (S24)), (-1))))) else (id_take.l0 kj5 l0 a1 (wrap64 (a2 + 1)) a3 ([] : List (S24)) 0)) = some (r1, r2, r3) := by rw [if_neg (show ¬ (false = true) by decide)] at H; exact H
        clear H
        have H := H1
        clear H1
        by_cases c11 : t527 = 0
        · rw [if_pos c11] at H
          have c11b0 : (t527 == 0) = true := beq_iff_eq.mpr c11
          have c11b1 : (t527 != 0) = false := bne_eq_false_iff_eq.mpr c11
          clear c11
          replace H := Option.bind_eq_some_iff.mp H
          obtain ⟨⟨t529, t530⟩, A120, H⟩ := H
          replace H : (if t530 = 0 then (some ((t529 == 1), ([] : List (S24)), wrap64 (a2 + 2))) else (some (false, ([] : List (S24)), (-1)))) = some (r1, r2, r3) := H
          have A12 := Aside0.mk A120
          clear A120
          by_cases c13 : t530 = 0
          · rw [if_pos c13] at H
            have c13b0 : (t530 == 0) = true := beq_iff_eq.mpr c13
            have c13b1 : (t530 != 0) = false := bne_eq_false_iff_eq.mpr c13
            clear c13
            simp only [Option.some.injEq, Prod.mk.injEq] at H
            obtain ⟨rfl, rfl, rfl⟩ := H
            go_wp2_with (first | ((with_reducible refine gate_callee (f := 75) rfl ?_); refine goesL_ (some 38) rfl rfl Try.func75 (by kernel_rfl) rfl #[.slice A0 l0.length c0, .int .i64 a1, .int .i64 (wrap64 (a2 + 1)), .int .i64 1] rfl (by (try simp only [List.map_toArray, List.map_cons, List.map_nil]); first | done | rfl | (simp only [List.length_drop, List.length_take]; rfl)) ?_; (with_reducible refine (bits_Take.calls kj5 _ _ l0 a1 (wrap64 (a2 + 1)) 1 t529 t530 _ ?side1 ?side2 A12.out).mono ?_); (case side1 => repeat (first | exact (Kd.C_below HR0.out HB.out) | (with_reducible refine Kd.C_alloc ?_ _) | (with_reducible refine Kd.C_drewN ?_ _) | (with_reducible refine Kd.C_drew ?_))); (case side2 => exact HC0.out); rintro e w' ⟨rfl, ⟨nd, rfl⟩⟩; refine ⟨_, rfl, ?_⟩; (try (rw [drewN_self wc]; generalize hq_ : World.drewN wc _ = wc; have n0_ : Aside0 (wc.heap[gb526]? = some (.cells #[.bool false, .slice none 0 0] 24 (0, 0))) := ⟨by rw [← hq_]; exact (by (with_reducible repeat (first | refine blk_drewN ?_ _ | refine blk_drew ?_ | refine blk_alloc ?_ _)); exact BK526.out)⟩; have n1_ : Aside0 (Below w.heap.size w wc) := ⟨by rw [← hq_]; exact (by repeat (first | (with_reducible first | exact HB.out | apply below_alloc | apply pw_below_drewN | apply below_drew1 | refine below_set ?_ GE526.out) | exact HB.out))⟩; clear BK526 HB hq_; have BK526 := n0_; have HB := n1_; clear n0_ n1_)); have hcz14_0 : wc.cell? ⟨gb526, 0, none⟩ = some (.bool false) := (blk_cell BK526.out 0).trans rfl; have hcz14_1 : wc.cell? ⟨gb526, 1, none⟩ = some (.slice none 0 0) := (blk_cell BK526.out 1).trans rfl; have hfz14_0 := blk_frozen BK526.out 0; have hfz14_1 := blk_frozen BK526.out 1))
            refine bodyPost_ret (results_ct rfl _ _ gb526 24 #[.bool (t529 == 1), .slice none 0 0] (0, 0) _ rfl (by (with_reducible repeat (first | refine blk_drewN ?_ _ | refine blk_drew ?_ | refine blk_alloc ?_ _)); refine blk_put (cs := #[.bool (t529 == 1), .slice none 0 0]) ?_ 1 _ rfl; (with_reducible repeat (first | refine blk_drewN ?_ _ | refine blk_drew ?_ | refine blk_alloc ?_ _)); refine blk_put (cs := #[.bool false, .slice none 0 0]) ?_ 0 _ rfl; (with_reducible repeat (first | refine blk_drewN ?_ _ | refine blk_drew ?_ | refine blk_alloc ?_ _)); exact BK526.out) Try.underlying24 rfl (by kernel_rfl)) rfl ?_
            exact ⟨_, by first | rfl | (simp [errW_none, errW_some] <;> rfl) | (simp [*, errW_none, errW_some] <;> rfl), by first | exact Kd.R_nil _ _ _ _ _ | exact Kd.N_nil _ _ _ _ _ | exact Kd.V_nil _ _ _ _ _ | exact Kd.Q_nil _ _ _ _ _ | exact Kd.S_nil _ _ _ _ _, by repeat (first | (with_reducible first | exact HB.out | apply below_alloc | apply pw_below_drewN | apply below_drew1 | refine below_set ?_ GE526.out) | exact HB.out)⟩
          · rw [if_neg c13] at H
            have c13b0 : (t530 == 0) = false := beq_eq_false_iff_ne.mpr c13
            have c13b1 : (t530 != 0) = true := bne_iff_ne.mpr c13
            simp only [Option.some.injEq, Prod.mk.injEq] at H
            obtain ⟨rfl, rfl, rfl⟩ := H
            go_wp2_with (first | ((with_reducible refine gate_callee (f := 75) rfl ?_); refine goesL_ (some 38) rfl rfl Try.func75 (by kernel_rfl) rfl #[.slice A0 l0.length c0, .int .i64 a1, .int .i64 (wrap64 (a2 + 1)), .int .i64 1] rfl (by (try simp only [List.map_toArray, List.map_cons, List.map_nil]); first | done | rfl | (simp only [List.length_drop, List.length_take]; rfl)) ?_; (with_reducible refine (bits_Take.calls kj5 _ _ l0 a1 (wrap64 (a2 + 1)) 1 t529 t530 _ ?side1 ?side2 A12.out).mono ?_); (case side1 => repeat (first | exact (Kd.C_below HR0.out HB.out) | (with_reducible refine Kd.C_alloc ?_ _) | (with_reducible refine Kd.C_drewN ?_ _) | (with_reducible refine Kd.C_drew ?_))); (case side2 => exact HC0.out); rintro e w' ⟨rfl, ⟨nd, rfl⟩⟩; refine ⟨_, rfl, ?_⟩; (try (rw [drewN_self wc]; generalize hq_ : World.drewN wc _ = wc; have n0_ : Aside0 (wc.heap[gb526]? = some (.cells #[.bool false, .slice none 0 0] 24 (0, 0))) := ⟨by rw [← hq_]; exact (by (with_reducible repeat (first | refine blk_drewN ?_ _ | refine blk_drew ?_ | refine blk_alloc ?_ _)); exact BK526.out)⟩; have n1_ : Aside0 (Below w.heap.size w wc) := ⟨by rw [← hq_]; exact (by repeat (first | (with_reducible first | exact HB.out | apply below_alloc | apply pw_below_drewN | apply below_drew1 | refine below_set ?_ GE526.out) | exact HB.out))⟩; clear BK526 HB hq_; have BK526 := n0_; have HB := n1_; clear n0_ n1_)); have hcz15_0 : wc.cell? ⟨gb526, 0, none⟩ = some (.bool false) := (blk_cell BK526.out 0).trans rfl; have hcz15_1 : wc.cell? ⟨gb526, 1, none⟩ = some (.slice none 0 0) := (blk_cell BK526.out 1).trans rfl; have hfz15_0 := blk_frozen BK526.out 0; have hfz15_1 := blk_frozen BK526.out 1))
            refine bodyPost_ret (results_ct rfl _ _ gb526 24 #[.bool false, .slice none 0 0] (0, 0) _ rfl (by (with_reducible repeat (first | refine blk_drewN ?_ _ | refine blk_drew ?_ | refine blk_alloc ?_ _)); refine blk_put (cs := #[.bool false, .slice none 0 0]) ?_ 1 _ rfl; (with_reducible repeat (first | refine blk_drewN ?_ _ | refine blk_drew ?_ | refine blk_alloc ?_ _)); refine blk_put (cs := #[.bool false, .slice none 0 0]) ?_ 0 _ rfl; (with_reducible repeat (first | refine blk_drewN ?_ _ | refine blk_drew ?_ | refine blk_alloc ?_ _)); exact BK526.out) Try.underlying24 rfl (by kernel_rfl)) rfl ?_
            exact ⟨_, by first | rfl | (simp [errW_none, errW_some] <;> rfl) | (simp [*, errW_none, errW_some] <;> rfl), by first | exact Kd.R_nil _ _ _ _ _ | exact Kd.N_nil _ _ _ _ _ | exact Kd.V_nil _ _ _ _ _ | exact Kd.Q_nil _ _ _ _ _ | exact Kd.S_nil _ _ _ _ _, by repeat (first | (with_reducible first | exact HB.out | apply below_alloc | apply pw_below_drewN | apply below_drew1 | refine below_set ?_ GE526.out) | exact HB.out)⟩
        · rw [if_neg c11] at H
          have c11b0 : (t527 == 0) = false := beq_eq_false_iff_ne.mpr c11
          have c11b1 : (t527 != 0) = true := bne_iff_ne.mpr c11
          have H' := Aside0.mk H
          clear H
          go_wp2
          go_loopg [2, 14, 51] kj5 (fun kq v2 v14 v51 w' => ∃ (x2_2 : Int) (x14_2 : List (S24)) (x51_2 : Int) (x527000_2 : Bool), v2 = .int .i64 x2_2 ∧ v51 = .int .i64 x51_2 ∧ Aside0 (id_take.l0 kq l0 a1 x2_2 a3 x14_2 x51_2 = some (r1, r2, r3)) ∧ Aside0 (kq ≤ kj5) ∧ Aside0 (Kd.R k24 24 w' w.heap.size (fun k_ => k_ ≠ gb526) v14 x14_2) ∧ Aside0 (w'.heap[gb526]? = some (.cells #[.bool x527000_2, (.slice none 0 0)] 24 (0, 0))) ∧ Aside0 (Below w.heap.size w w'))
          case atStart => exact ⟨(wrap64 (a2 + 1)), (([] : List (S24))), (0), (false), (by first | rfl | (simp; done) | (simp [*]; done)), (by first | rfl | (simp; done) | (simp [*]; done)), H', ⟨Nat.le_refl _⟩, ⟨by first | exact Kd.R_nil _ _ _ _ _ | exact Kd.N_nil _ _ _ _ _ | exact Kd.V_nil _ _ _ _ _ | exact Kd.Q_nil _ _ _ _ _ | exact Kd.S_nil _ _ _ _ _⟩, ⟨by (with_reducible repeat (first | refine blk_drewN ?_ _ | refine blk_drew ?_ | refine blk_alloc ?_ _)); exact BK526.out⟩, ⟨by repeat (first | (with_reducible first | exact HB.out | apply below_alloc | apply pw_below_drewN | apply below_drew1 | refine below_set ?_ GE526.out) | exact HB.out)⟩⟩
          case round =>
            clear H'
            try clear c1
            try clear p2
            try clear c5
            try clear p6
            try clear c7
            try clear c8
            try clear c8b0
            try clear c8b1
            try clear c9
            try clear c11
            try clear c11b0
            try clear c11b1
            try clear c13
            try clear c13b0
            try clear c13b1
            try clear hcz10_0
            try clear hcz10_1
            try clear hcz14_0
            try clear hcz14_1
            try clear hcz15_0
            try clear hcz15_1
            try clear hfz10_0
            try clear hfz10_1
            try clear hfz14_0
            try clear hfz14_1
            try clear hfz15_0
            try clear hfz15_1
            try clear p2
            obtain ⟨x2_2, x14_2, x51_2, x527000_2, rfl, rfl, HA, HK2, HO_14, BK526, HB⟩ := hrel
            cases gk with
            | zero => exact absurd HA.out (by simp [id_take.l0])
            | succ k2 =>
              have H := HA.out
              clear HA
              simp only [id_take.l0] at H
              by_cases c16 : x51_2 < 2
              · rw [if_pos c16] at H
                have c16b0 : decide (x51_2 < 2) = true := decide_eq_true c16
                clear c16
                replace H := Option.bind_eq_some_iff.mp H
                obtain ⟨⟨t531, t532, t535⟩, A170, H⟩ := H
                replace H : (if t535 < 0 then (some (false, ([] : List (S24)), (-1))) else (if x14_2.length < 4398046511104 then (id_take.l0 k2 l0 a1 t535 a3 (x14_2 ++ [(⟨t531, t532⟩ : S24)]) (wrap64 (x51_2 + 1))) else (none))) = some (r1, r2, r3) := H
                have A17 := Aside0.mk A170
                clear A170
                by_cases c18 : t535 < 0
                · rw [if_pos c18] at H
                  have c18b0 : decide (t535 < 0) = true := decide_eq_true c18
                  clear c18
                  simp only [Option.some.injEq, Prod.mk.injEq] at H
                  obtain ⟨rfl, rfl, rfl⟩ := H
                  go_wp2_with (first | ((with_reducible refine gate_callee (f := 58) rfl ?_); refine goesL_ (some 59) rfl rfl Try.func58 (by kernel_rfl) rfl #[.slice A0 l0.length c0, .int .i64 a1, .int .i64 x2_2, .int .i64 (wrap64 (a3 - 1))] rfl (by (try simp only [List.map_toArray, List.map_cons, List.map_nil]); first | done | rfl | (simp only [List.length_drop, List.length_take]; rfl)) ?_; (with_reducible refine (ih k2 (by have := HJ5.out; have := HK2.out; omega) _ _ l0 a1 x2_2 (wrap64 (a3 - 1)) t531 t532 t535 _ ?side1 ?side2 A17.out).mono ?_); (case side1 => repeat (first | exact (Kd.C_below HR0.out HB.out) | (with_reducible refine Kd.C_alloc ?_ _) | (with_reducible refine Kd.C_drewN ?_ _) | (with_reducible refine Kd.C_drew ?_))); (case side2 => exact HC0.out); rintro e w19 ⟨v533, rfl, ho0, hb⟩; refine ⟨_, rfl, ?_⟩; have n0_ := Aside0.mk (Kd.R_elder' (by (with_reducible repeat (first | apply Kd.R_alloc | apply Kd.R_drewN | apply Kd.R_drew)); exact HO_14.out) (Kd.R_base ho0) hb); have n1_ := Aside0.mk (Kd.R_lower (Kd.R_newB (Kd.R_new' ho0 (Kd.R_lt (by (with_reducible repeat (first | apply Kd.R_alloc | apply Kd.R_drewN | apply Kd.R_drew)); exact HO_14.out))) (g := gb526) (o := .cells #[.bool x527000_2, .slice none 0 0] 24 (0, 0)) (by (with_reducible repeat (first | refine blk_drewN ?_ _ | refine blk_drew ?_ | refine blk_alloc ?_ _)); exact BK526.out)) (below_size (by repeat (first | (with_reducible first | exact HB.out | apply below_alloc | apply pw_below_drewN | apply below_drew1 | refine below_set ?_ GE526.out) | exact HB.out)))); have n2_ := Aside0.mk (blk_below (g := gb526) (o := .cells #[.bool x527000_2, .slice none 0 0] 24 (0, 0)) (by (with_reducible repeat (first | refine blk_drewN ?_ _ | refine blk_drew ?_ | refine blk_alloc ?_ _)); exact BK526.out) hb); have n3_ := Aside0.mk (below_step (by repeat (first | (with_reducible first | exact HB.out | apply below_alloc | apply pw_below_drewN | apply below_drew1 | refine below_set ?_ GE526.out) | exact HB.out)) hb); clear HO_14; clear BK526; clear HB; have HO_14 := n0_; have HO534 := n1_; have BK526 := n2_; have HB := n3_; clear n0_ n1_ n2_ n3_; (try clear hb); (try clear hb2); (try clear hk); (try clear hi); (try clear ho0)) | ((with_reducible refine gate_dst (N := 15) rfl ?_); refine box_event ?hg (N := 15) ?hd (cs := #[.bool false, .slice none 0 0]) (t := 24) ?hr ?_; (case hd => rfl); (case hg => rfl); (case hr => first | (go_simp; done) | (go_simp; rfl)); intro gb536 hg w20 hbox hb; have n0_ := Aside0.mk (Kd.R_below (Kd.R_elderB (by (with_reducible repeat (first | apply Kd.R_alloc | apply Kd.R_drewN | apply Kd.R_drew)); exact HO_14.out) gb536 (Nat.le_of_eq hg.symm)) hb); have n1_ := Aside0.mk (Kd.R_below (Kd.R_elderB (by (with_reducible repeat (first | apply Kd.R_alloc | apply Kd.R_drewN | apply Kd.R_drew)); exact HO534.out) gb536 (Nat.le_of_eq hg.symm)) hb); have n2_ := Aside0.mk (blk_below (g := gb526) (o := .cells #[.bool x527000_2, .slice none 0 0] 24 (0, 0)) (by (with_reducible repeat (first | refine blk_drewN ?_ _ | refine blk_drew ?_ | refine blk_alloc ?_ _)); exact BK526.out) hb); have n3_ := Aside0.mk (below_step (by repeat (first | (with_reducible first | exact HB.out | apply below_alloc | apply pw_below_drewN | apply below_drew1 | refine below_set ?_ GE526.out) | exact HB.out)) hb); have n4_ := Aside0.mk (hbox); have n5_ := Aside0.mk ((by rw [hg]; exact (below_size (by repeat (first | (with_reducible first | exact HB.out | apply below_alloc | apply pw_below_drewN | apply below_drew1 | refine below_set ?_ GE526.out) | exact HB.out))) : w.heap.size ≤ gb536)); have n6_ := Aside0.mk ((by rw [hg]; exact (below_size (by repeat (first | (with_reducible first | exact HB.out | apply below_alloc | apply pw_below_drewN | apply below_drew1 | refine below_set ?_ GE526.out) | exact HB.out))) : w.heap.size ≤ gb536)); have n7_ := Aside0.mk ((by rw [hg]; exact Nat.ne_of_lt (blk_lt (g := gb526) (o := .cells #[.bool x527000_2, .slice none 0 0] 24 (0, 0)) (by (with_reducible repeat (first | refine blk_drewN ?_ _ | refine blk_drew ?_ | refine blk_alloc ?_ _)); exact BK526.out)) : gb526 ≠ gb536)); have n8_ := Aside0.mk ((by rw [hg]; exact Nat.ne_of_gt (blk_lt (g := gb526) (o := .cells #[.bool x527000_2, .slice none 0 0] 24 (0, 0)) (by (with_reducible repeat (first | refine blk_drewN ?_ _ | refine blk_drew ?_ | refine blk_alloc ?_ _)); exact BK526.out)) : gb536 ≠ gb526)); clear HO_14; clear HO534; clear BK526; clear HB; have HO_14 := n0_; have HO534 := n1_; have BK526 := n2_; have HB := n3_; have BK536 := n4_; have GW536 := n5_; have GE536 := n6_; have NB526_536 := n7_; have NB536_526 := n8_; clear n0_ n1_ n2_ n3_ n4_ n5_ n6_ n7_ n8_; clear hb hbox hg; have hnb21 := NB536_526.out; have hnc21 := NB526_536.out; have hcz22_0 : w20.cell? ⟨gb536, 0, none⟩ = some (.bool false) := (blk_cell BK536.out 0).trans rfl; have hcz22_1 : w20.cell? ⟨gb536, 1, none⟩ = some (.slice none 0 0) := (blk_cell BK536.out 1).trans rfl; have hfz22_0 := blk_frozen BK536.out 0; have hfz22_1 := blk_frozen BK536.out 1; obtain ⟨Ao23, co23, eo23⟩ := Kd.R_slice HO534.out; subst eo23; have hcz24_0 : w20.cell? ⟨gb526, 0, none⟩ = some (.bool x527000_2) := (blk_cell BK526.out 0).trans rfl; have hcz24_1 : w20.cell? ⟨gb526, 1, none⟩ = some (.slice none 0 0) := (blk_cell BK526.out 1).trans rfl; have hfz24_0 := blk_frozen BK526.out 0; have hfz24_1 := blk_frozen BK526.out 1))
                  refine bodyPost_ret (results_ct rfl _ _ gb526 24 #[.bool false, .slice none 0 0] (0, 0) _ rfl (by (with_reducible repeat (first | refine blk_drewN ?_ _ | refine blk_drew ?_ | refine blk_alloc ?_ _)); refine blk_put (cs := #[.bool false, .slice none 0 0]) ?_ 1 _ rfl; (with_reducible repeat (first | refine blk_drewN ?_ _ | refine blk_drew ?_ | refine blk_alloc ?_ _)); refine blk_put (cs := #[.bool x527000_2, .slice none 0 0]) ?_ 0 _ rfl; (with_reducible repeat (first | refine blk_drewN ?_ _ | refine blk_drew ?_ | refine blk_alloc ?_ _)); refine blk_far ?_ NB526_536.out _; (with_reducible repeat (first | refine blk_drewN ?_ _ | refine blk_drew ?_ | refine blk_alloc ?_ _)); refine blk_far ?_ NB526_536.out _; (with_reducible repeat (first | refine blk_drewN ?_ _ | refine blk_drew ?_ | refine blk_alloc ?_ _)); exact BK526.out) Try.underlying24 rfl (by kernel_rfl)) rfl ?_
                  exact ⟨_, by first | rfl | (simp [errW_none, errW_some] <;> rfl) | (simp [*, errW_none, errW_some] <;> rfl), by first | exact Kd.R_nil _ _ _ _ _ | exact Kd.N_nil _ _ _ _ _ | exact Kd.V_nil _ _ _ _ _ | exact Kd.Q_nil _ _ _ _ _ | exact Kd.S_nil _ _ _ _ _, by repeat (first | (with_reducible first | exact HB.out | apply below_alloc | apply pw_below_drewN | apply below_drew1 | refine below_set ?_ GE526.out | refine below_set ?_ GE536.out) | exact HB.out)⟩
                · rw [if_neg c18] at H
                  have c18b0 : decide (t535 < 0) = false := decide_eq_false c18
                  clear c18
                  by_cases c25 : x14_2.length < 4398046511104
                  · rw [if_pos c25] at H
                    have LMc25 := Aside0.mk c25
                    clear c25
                    obtain ⟨y537, hy537⟩ : ∃ y_ : List (S24), y_ = (x14_2 ++ [(⟨t531, t532⟩ : S24)]) := ⟨_, rfl⟩
                    replace H : (id_take.l0 k2 l0 a1 t535 a3 y537 (wrap64 (x51_2 + 1))) = some (r1, r2, r3) := by first | (rw [hy537]; with_reducible exact H) | (have H2_ := (Option.bind_some _ _).symm.trans H; rw [hy537]; with_reducible exact H2_) | (have H2_ := (Option.bind_some _ _).symm.trans H; with_reducible exact H2_) | with_reducible exact H | (rw [hy537]; exact H) | exact H
                    have Ny537 := Aside0.mk hy537
                    clear hy537
                    have H' := Aside0.mk H
                    clear H
                    go_wp2_with (first | ((with_reducible refine gate_callee (f := 58) rfl ?_); refine goesL_ (some 59) rfl rfl Try.func58 (by kernel_rfl) rfl #[.slice A0 l0.length c0, .int .i64 a1, .int .i64 x2_2, .int .i64 (wrap64 (a3 - 1))] rfl (by (try simp only [List.map_toArray, List.map_cons, List.map_nil]); first | done | rfl | (simp only [List.length_drop, List.length_take]; rfl)) ?_; (with_reducible refine (ih k2 (by have := HJ5.out; have := HK2.out; omega) _ _ l0 a1 x2_2 (wrap64 (a3 - 1)) t531 t532 t535 _ ?side1 ?side2 A17.out).mono ?_); (case side1 => repeat (first | exact (Kd.C_below HR0.out HB.out) | (with_reducible refine Kd.C_alloc ?_ _) | (with_reducible refine Kd.C_drewN ?_ _) | (with_reducible refine Kd.C_drew ?_))); (case side2 => exact HC0.out); rintro e w26 ⟨v533, rfl, ho0, hb⟩; refine ⟨_, rfl, ?_⟩; have n0_ := Aside0.mk (Kd.R_elder' (by (with_reducible repeat (first | apply Kd.R_alloc | apply Kd.R_drewN | apply Kd.R_drew)); exact HO_14.out) (Kd.R_base ho0) hb); have n1_ := Aside0.mk (Kd.R_lower (Kd.R_newB (Kd.R_new' ho0 (Kd.R_lt (by (with_reducible repeat (first | apply Kd.R_alloc | apply Kd.R_drewN | apply Kd.R_drew)); exact HO_14.out))) (g := gb526) (o := .cells #[.bool x527000_2, .slice none 0 0] 24 (0, 0)) (by (with_reducible repeat (first | refine blk_drewN ?_ _ | refine blk_drew ?_ | refine blk_alloc ?_ _)); exact BK526.out)) (below_size (by repeat (first | (with_reducible first | exact HB.out | apply below_alloc | apply pw_below_drewN | apply below_drew1 | refine below_set ?_ GE526.out) | exact HB.out)))); have n2_ := Aside0.mk (blk_below (g := gb526) (o := .cells #[.bool x527000_2, .slice none 0 0] 24 (0, 0)) (by (with_reducible repeat (first | refine blk_drewN ?_ _ | refine blk_drew ?_ | refine blk_alloc ?_ _)); exact BK526.out) hb); have n3_ := Aside0.mk (below_step (by repeat (first | (with_reducible first | exact HB.out | apply below_alloc | apply pw_below_drewN | apply below_drew1 | refine below_set ?_ GE526.out) | exact HB.out)) hb); clear HO_14; clear BK526; clear HB; have HO_14 := n0_; have HO534 := n1_; have BK526 := n2_; have HB := n3_; clear n0_ n1_ n2_ n3_; (try clear hb); (try clear hb2); (try clear hk); (try clear hi); (try clear ho0)) | ((with_reducible refine gate_dst (N := 15) rfl ?_); refine box_event ?hg (N := 15) ?hd (cs := #[.bool false, .slice none 0 0]) (t := 24) ?hr ?_; (case hd => rfl); (case hg => rfl); (case hr => first | (go_simp; done) | (go_simp; rfl)); intro gb536 hg w27 hbox hb; have n0_ := Aside0.mk (Kd.R_below (Kd.R_elderB (by (with_reducible repeat (first | apply Kd.R_alloc | apply Kd.R_drewN | apply Kd.R_drew)); exact HO_14.out) gb536 (Nat.le_of_eq hg.symm)) hb); have n1_ := Aside0.mk (Kd.R_below (Kd.R_elderB (by (with_reducible repeat (first | apply Kd.R_alloc | apply Kd.R_drewN | apply Kd.R_drew)); exact HO534.out) gb536 (Nat.le_of_eq hg.symm)) hb); have n2_ := Aside0.mk (blk_below (g := gb526) (o := .cells #[.bool x527000_2, .slice none 0 0] 24 (0, 0)) (by (with_reducible repeat (first | refine blk_drewN ?_ _ | refine blk_drew ?_ | refine blk_alloc ?_ _)); exact BK526.out) hb); have n3_ := Aside0.mk (below_step (by repeat (first | (with_reducible first | exact HB.out | apply below_alloc | apply pw_below_drewN | apply below_drew1 | refine below_set ?_ GE526.out) | exact HB.out)) hb); have n4_ := Aside0.mk (hbox); have n5_ := Aside0.mk ((by rw [hg]; exact (below_size (by repeat (first | (with_reducible first | exact HB.out | apply below_alloc | apply pw_below_drewN | apply below_drew1 | refine below_set ?_ GE526.out) | exact HB.out))) : w.heap.size ≤ gb536)); have n6_ := Aside0.mk ((by rw [hg]; exact (below_size (by repeat (first | (with_reducible first | exact HB.out | apply below_alloc | apply pw_below_drewN | apply below_drew1 | refine below_set ?_ GE526.out) | exact HB.out))) : w.heap.size ≤ gb536)); have n7_ := Aside0.mk ((by rw [hg]; exact Nat.ne_of_lt (blk_lt (g := gb526) (o := .cells #[.bool x527000_2, .slice none 0 0] 24 (0, 0)) (by (with_reducible repeat (first | refine blk_drewN ?_ _ | refine blk_drew ?_ | refine blk_alloc ?_ _)); exact BK526.out)) : gb526 ≠ gb536)); have n8_ := Aside0.mk ((by rw [hg]; exact Nat.ne_of_gt (blk_lt (g := gb526) (o := .cells #[.bool x527000_2, .slice none 0 0] 24 (0, 0)) (by (with_reducible repeat (first | refine blk_drewN ?_ _ | refine blk_drew ?_ | refine blk_alloc ?_ _)); exact BK526.out)) : gb536 ≠ gb526)); clear HO_14; clear HO534; clear BK526; clear HB; have HO_14 := n0_; have HO534 := n1_; have BK526 := n2_; have HB := n3_; have BK536 := n4_; have GW536 := n5_; have GE536 := n6_; have NB526_536 := n7_; have NB536_526 := n8_; clear n0_ n1_ n2_ n3_ n4_ n5_ n6_ n7_ n8_; clear hb hbox hg; have hnb28 := NB536_526.out; have hnc28 := NB526_536.out; have hcz29_0 : w27.cell? ⟨gb536, 0, none⟩ = some (.bool false) := (blk_cell BK536.out 0).trans rfl; have hcz29_1 : w27.cell? ⟨gb536, 1, none⟩ = some (.slice none 0 0) := (blk_cell BK536.out 1).trans rfl; have hfz29_0 := blk_frozen BK536.out 0; have hfz29_1 := blk_frozen BK536.out 1; obtain ⟨Ao30, co30, eo30⟩ := Kd.R_slice HO534.out; subst eo30) | ((with_reducible refine gate_store (t := 24) (p := 15) rfl ?_); refine store_event (t := 24) (p := 15) (v := ?vo_w31) (w1 := ((w27.setCell ⟨gb536, 0, none⟩ (.bool t531)).setCell ⟨gb536, 1, none⟩ (.slice Ao30 t532.length co30))) ?hg ?ho ?hn ?hr ?_; (case ho => rfl); (case hg => rfl); (case hn => rfl); (case hr => first | (go_simp; done) | (go_simp; rfl)); intro w31 hw; have n0_ : Aside0 (Kd.R k24 24 w31 w.heap.size (fun k_ => some k_ ≠ (.slice Ao30 t532.length co30 : Value).ownBlock ∧ k_ ≠ gb526 ∧ k_ ≠ gb536) u14 x14_2) := ⟨(by rw [hw]; exact (by (with_reducible repeat (first | apply Kd.R_alloc | apply Kd.R_drewN | apply Kd.R_drew)); exact Kd.R_mono (Kd.R_far (p := ⟨gb536, 1, none⟩) (Kd.R_far (p := ⟨gb536, 0, none⟩) (Kd.R_mono HO_14.out (fun k_ hk => (⟨hk, hk.2⟩ : _ ∧ k_ ≠ gb536))) (fun _ hk => hk.2) (.bool t531)) (fun _ hk => hk.2) (.slice Ao30 t532.length co30)) (fun _ hk => ⟨hk.1.1.2, ⟨hk.1.1.1, hk.1.2⟩⟩)))⟩; have n1_ : Aside0 (Kd.R k24 24 w31 w.heap.size (fun k_ => some k_ ≠ (u14 : Value).ownBlock ∧ k_ ≠ gb526 ∧ k_ ≠ gb536) (.slice Ao30 t532.length co30) t532) := ⟨(by rw [hw]; exact (by (with_reducible repeat (first | apply Kd.R_alloc | apply Kd.R_drewN | apply Kd.R_drew)); exact Kd.R_mono (Kd.R_far (p := ⟨gb536, 1, none⟩) (Kd.R_far (p := ⟨gb536, 0, none⟩) (Kd.R_mono HO534.out (fun k_ hk => (⟨hk, hk.2⟩ : _ ∧ k_ ≠ gb536))) (fun _ hk => hk.2) (.bool t531)) (fun _ hk => hk.2) (.slice Ao30 t532.length co30)) (fun _ hk => ⟨hk.1.1.1.2, ⟨hk.1.1.2, hk.1.2⟩⟩)))⟩; have n2_ : Aside0 (w31.heap[gb526]? = some (.cells #[.bool x527000_2, .slice none 0 0] 24 (0, 0))) := ⟨(by rw [hw]; exact (by (with_reducible repeat (first | refine blk_drewN ?_ _ | refine blk_drew ?_ | refine blk_alloc ?_ _)); refine blk_far ?_ NB526_536.out _; (with_reducible repeat (first | refine blk_drewN ?_ _ | refine blk_drew ?_ | refine blk_alloc ?_ _)); refine blk_far ?_ NB526_536.out _; (with_reducible repeat (first | refine blk_drewN ?_ _ | refine blk_drew ?_ | refine blk_alloc ?_ _)); exact BK526.out))⟩; have n3_ : Aside0 (w31.heap[gb536]? = some (.cells #[.bool t531, .slice Ao30 t532.length co30] 24 (0, 0))) := ⟨(by rw [hw]; exact (by (with_reducible repeat (first | refine blk_drewN ?_ _ | refine blk_drew ?_ | refine blk_alloc ?_ _)); refine blk_put (cs := #[.bool t531, .slice none 0 0]) ?_ 1 _ rfl; (with_reducible repeat (first | refine blk_drewN ?_ _ | refine blk_drew ?_ | refine blk_alloc ?_ _)); refine blk_put (cs := #[.bool false, .slice none 0 0]) ?_ 0 _ rfl; (with_reducible repeat (first | refine blk_drewN ?_ _ | refine blk_drew ?_ | refine blk_alloc ?_ _)); exact BK536.out))⟩; have n4_ : Aside0 (Below w.heap.size w w31) := ⟨(by rw [hw]; exact (by repeat (first | (with_reducible first | exact HB.out | apply below_alloc | apply pw_below_drewN | apply below_drew1 | refine below_set ?_ GE526.out | refine below_set ?_ GE536.out) | exact HB.out)))⟩; clear hw; clear HO_14; clear HO534; clear BK526; clear BK536; clear HB; have HO_14 := n0_; have HO534 := n1_; have BK526 := n2_; have BK536 := n3_; have HB := n4_; clear n0_ n1_ n2_ n3_ n4_; have hcz32_0 : w31.cell? ⟨gb536, 0, none⟩ = some (.bool t531) := (blk_cell BK536.out 0).trans rfl; have hcz32_1 : w31.cell? ⟨gb536, 1, none⟩ = some (.slice Ao30 t532.length co30) := (blk_cell BK536.out 1).trans rfl; have hfz32_0 := blk_frozen BK536.out 0; have hfz32_1 := blk_frozen BK536.out 1) | ((with_reducible refine gate_builtin (b := .append) (xs := #[.tmp 65, .tmp 67]) rfl ?_); at_builtin; refine Kd.R_append k24 (w0 := w) w.heap.size rfl (.tmp 65) (.tmp 67) 22 24 (.agg #[(.bool false), (.slice none 0 0)]) 32 rfl Try.underlying22 info24 rfl (by decide) (by omega) u14 x14_2 (⟨t531, t532⟩ : S24) [.bool t531, .slice Ao30 t532.length co30] (fun k_ => k_ ≠ gb526 ∧ k_ ≠ gb536) (fun k_ => ((fun k_ => k_ ≠ gb526 ∧ k_ ≠ gb536)) k_ ∧ some k_ ≠ (u14 : Value).ownBlock) rfl rfl ?aP (fun _ hk => hk) ?aF ?aO ?aB ?aS ?aL ?_; (case aP => exact k24_mkM _ _ _ (⟨t531, t532⟩ : S24) (Kd.R_mono (HO534.out) (fun k_ hk => ⟨⟨hk.2.1, hk.2.2⟩, hk.1⟩))); (case aB => exact (by repeat (first | (with_reducible first | exact HB.out | apply below_alloc | apply pw_below_drewN | apply below_drew1 | refine below_set ?_ GE526.out | refine below_set ?_ GE536.out) | exact HB.out))); (case aF => exact (fun k_ hk => ⟨Kd.freshB (g := gb526) (o := .cells #[.bool x527000_2, .slice none 0 0] 24 (0, 0)) (by (with_reducible repeat (first | refine blk_drewN ?_ _ | refine blk_drew ?_ | refine blk_alloc ?_ _)); exact BK526.out) k_ hk, Kd.freshB (g := gb536) (o := .cells #[.bool t531, .slice Ao30 t532.length co30] 24 (0, 0)) (by (with_reducible repeat (first | refine blk_drewN ?_ _ | refine blk_drew ?_ | refine blk_alloc ?_ _)); exact BK536.out) k_ hk⟩)); (case aO => exact (by (with_reducible repeat (first | apply Kd.R_alloc | apply Kd.R_drewN | apply Kd.R_drew)); exact Kd.R_mono HO_14.out (fun _ hk => ⟨hk.2.1, hk.2.2⟩))); (case aS => exact (below_size (by repeat (first | (with_reducible first | exact HB.out | apply below_alloc | apply pw_below_drewN | apply below_drew1 | refine below_set ?_ GE526.out | refine below_set ?_ GE536.out) | exact HB.out)))); (case aL => have := LMc25.out; omega); intro v538 w33 ho hb hg hat; rw [← Ny537.out] at ho; have n0_ := Aside0.mk (blk_grown (g := gb526) (o := .cells #[.bool x527000_2, .slice none 0 0] 24 (0, 0)) (by (with_reducible repeat (first | refine blk_drewN ?_ _ | refine blk_drew ?_ | refine blk_alloc ?_ _)); exact BK526.out) hg (Kd.R_away HO_14.out (fun _ hk => hk.2.1))); have n1_ := Aside0.mk (blk_grown (g := gb536) (o := .cells #[.bool t531, .slice Ao30 t532.length co30] 24 (0, 0)) (by (with_reducible repeat (first | refine blk_drewN ?_ _ | refine blk_drew ?_ | refine blk_alloc ?_ _)); exact BK536.out) hg (Kd.R_away HO_14.out (fun _ hk => hk.2.2))); have n2_ := Aside0.mk (hb); have n3_ := Aside0.mk (ho); clear BK526; clear BK536; clear HB; clear HO_14; clear HO534; have BK526 := n0_; have BK536 := n1_; have HB := n2_; have HO539 := n3_; clear n0_ n1_ n2_ n3_; clear ho hb hg hat))
                    go_roundg k2
                    case measure => have := HJ5.out; have := HK2.out; omega
                    case rel => exact ⟨(t535), (y537), (wrap64 (x51_2 + 1)), (x527000_2), (by first | rfl | (simp; done) | (simp [*]; done)), (by first | rfl | (simp; done) | (simp [*]; done)), H', ⟨by have := HJ5.out; have := HK2.out; omega⟩, ⟨by (with_reducible repeat (first | apply Kd.R_alloc | apply Kd.R_drewN | apply Kd.R_drew)); exact Kd.R_mono HO539.out (fun _ hk => hk.1)⟩, ⟨by (with_reducible repeat (first | refine blk_drewN ?_ _ | refine blk_drew ?_ | refine blk_alloc ?_ _)); exact BK526.out⟩, ⟨by repeat (first | (with_reducible first | exact HB.out | apply below_alloc | apply pw_below_drewN | apply below_drew1 | refine below_set ?_ GE526.out | refine below_set ?_ GE536.out) | exact HB.out)⟩⟩
                  · rw [if_neg c25] at H
                    exact absurd H (by simp)
              · rw [if_neg c16] at H
                have c16b0 : decide (x51_2 < 2) = false := decide_eq_false c16
                clear c16
                simp only [Option.some.injEq, Prod.mk.injEq] at H
                obtain ⟨rfl, rfl, rfl⟩ := H
                obtain ⟨Ao34, co34, eo34⟩ := Kd.R_slice HO_14.out
                subst eo34
                have hcz35_0 : wr.cell? ⟨gb526, 0, none⟩ = some (.bool x527000_2) := (blk_cell BK526.out 0).trans rfl
                have hcz35_1 : wr.cell? ⟨gb526, 1, none⟩ = some (.slice none 0 0) := (blk_cell BK526.out 1).trans rfl
                have hfz35_0 := blk_frozen BK526.out 0
                have hfz35_1 := blk_frozen BK526.out 1
                go_wp2
                refine bodyPost_ret (results_ct rfl _ _ gb526 24 #[.bool false, .slice Ao34 x14_2.length co34] (0, 0) _ rfl (by (with_reducible repeat (first | refine blk_drewN ?_ _ | refine blk_drew ?_ | refine blk_alloc ?_ _)); refine blk_put (cs := #[.bool false, .slice none 0 0]) ?_ 1 _ rfl; (with_reducible repeat (first | refine blk_drewN ?_ _ | refine blk_drew ?_ | refine blk_alloc ?_ _)); refine blk_put (cs := #[.bool x527000_2, .slice none 0 0]) ?_ 0 _ rfl; (with_reducible repeat (first | refine blk_drewN ?_ _ | refine blk_drew ?_ | refine blk_alloc ?_ _)); exact BK526.out) Try.underlying24 rfl (by kernel_rfl)) rfl ?_
                exact ⟨_, by first | rfl | (simp [errW_none, errW_some] <;> rfl) | (simp [*, errW_none, errW_some] <;> rfl), by (with_reducible repeat (first | apply Kd.R_alloc | apply Kd.R_drewN | apply Kd.R_drew)); exact Kd.R_mono (Kd.R_far (p := ⟨gb526, 1, none⟩) (Kd.R_far (p := ⟨gb526, 0, none⟩) (Kd.R_mono HO_14.out (fun k_ hk => (⟨hk, hk⟩ : _ ∧ k_ ≠ gb526))) (fun _ hk => hk.2) (.bool false)) (fun _ hk => hk.2) (.slice Ao34 x14_2.length co34)) (fun _ hk => trivial), by repeat (first | (with_reducible first | exact HB.out | apply below_alloc | apply pw_below_drewN | apply below_drew1 | refine below_set ?_ GE526.out) | exact HB.out)⟩

end Go.Proofs.Ytlhaofbncoijfaa.X
namespace Go.Proofs.Ytlhaofbncoijfaa.Math
set_option linter.unusedVariables false
set_option linter.unusedSimpArgs false
open Go.RowKit Go.Proofs.Ytlhaofbncoijfaa.X Go.Proofs.Ytlhaofbncoijfaa.HandF Go.Proofs.Ytlhaofbncoijfaa.Hand Go.Proofs.Ytlhaofbncoijfaa.Tree
open Go.Proofs.YtlhaofbncoijfaaW.PrintWords Go.Proofs.YtlhaofbncoijfaaW.PrintLast Go.Proofs.YtlhaofbncoijfaaW.PrintMore
/-- The tree whose bits stand at a place, and the place behind; the first number: the depth and one. -/
def readB : Nat → List Int → Nat → Nat → Option (T × Nat)
  | 0, _, _, _ => none
  | m + 1, l, n, p =>
    if n ≤ p then none
    else if bitN l p = 0 then (if n ≤ p + 1 then none else some (.leaf (bitN l (p + 1) == 1), p + 2))
    else (match readB m l n (p + 1) with
      | none => none
      | some x => match readB m l n x.2 with
        | none => none
        | some y => some (.node x.1 y.1, y.2))
theorem readB_le : ∀ (m : Nat) {l : List Int} {n p q : Nat} {t : T}, readB m l n p = some (t, q) → p < q ∧ q ≤ n
  | 0, l, n, p, q, t, h => by simp [readB] at h
  | m + 1, l, n, p, q, t, h => by
    rw [readB] at h
    by_cases h1 : n ≤ p
    · rw [if_pos h1] at h; cases h
    rw [if_neg h1] at h
    by_cases h2 : bitN l p = 0
    · rw [if_pos h2] at h
      by_cases h3 : n ≤ p + 1
      · rw [if_pos h3] at h; cases h
      rw [if_neg h3] at h
      cases h
      omega
    rw [if_neg h2] at h
    cases hx : readB m l n (p + 1) with
    | none => rw [hx] at h; cases h
    | some x =>
      obtain ⟨a, r⟩ := x
      rw [hx] at h
      dsimp only at h
      have e1 := readB_le m hx
      cases hy : readB m l n r with
      | none => rw [hy] at h; cases h
      | some y =>
        obtain ⟨b, s⟩ := y
        rw [hy] at h
        cases h
        have e2 := readB_le m hy
        omega
/-- One bit, taken. -/
theorem take_one {l : List Int} {n p : Nat} (h : rightB l (n : Int) = true) (hp : p ≤ n) : takeRes l (n : Int) (p : Int) 1 = if n ≤ p then (0, 10) else ((bitN l p : Int), 0) := by
  unfold takeRes
  rw [if_pos ⟨h, by decide, by decide, by omega, by omega⟩]
  by_cases h1 : n ≤ p
  · rw [if_pos h1, if_pos (by omega)]
  · rw [if_neg h1, if_neg (by omega)]
    simp [takeN]
/-- What the reader hands back. -/
def readBS (m : Nat) (l : List Int) (n p : Nat) : Bool × List S24 × Int := match readB m l n p with
  | some x => (x.1.toS.f0, x.1.toS.f1, (x.2 : Int))
  | none => (false, [], -1)
theorem readBS_none {m : Nat} {l : List Int} {n p : Nat} (h : readB m l n p = none) : readBS m l n p = (false, [], -1) := by unfold readBS; rw [h]
theorem readBS_some {m : Nat} {l : List Int} {n p : Nat} {t : T} {q : Nat} (h : readB m l n p = some (t, q)) : readBS m l n p = (t.toS.f0, t.toS.f1, (q : Int)) := by unfold readBS; rw [h]
theorem idtake_ev : ∀ (m : Nat) {l : List Int} {n p : Nat}, Bytes l → l.length ≤ 140737488355328 → rightB l (n : Int) = true → p ≤ n → m ≤ 33 →
    Ev (fun k => id_take.f k l (n : Int) (p : Int) ((m : Int) - 1)) (readBS m l n p)
  | 0, l, n, p, hb, hl, hr, hp, hm => by
    have hn := (rightB_iff.1 hr).2.1
    obtain ⟨k0, hk⟩ := take_res (n := (n : Int)) (p := (p : Int)) (w := 1) hb hl (by omega) (by omega)
    rw [take_one hr hp] at hk
    refine ⟨k0 + 2, fun k hkk => ?_⟩
    obtain ⟨j, rfl⟩ : ∃ j, k = j + 2 := ⟨k - 2, by omega⟩
    have q := hk (j + 1) (by omega)
    dsimp only at q ⊢
    rw [readBS_none rfl, id_take.f, q, Option.bind_some]
    by_cases h1 : n ≤ p
    · rw [if_pos h1, if_neg (by decide), id_take.j0, if_pos rfl]
    · rw [if_neg h1, if_pos rfl, id_take.j0, if_pos (by decide)]
  | m + 1, l, n, p, hb, hl, hr, hp, hm => by
    have hn := (rightB_iff.1 hr).2.1
    obtain ⟨k0, hk⟩ := take_res (n := (n : Int)) (p := (p : Int)) (w := 1) hb hl (by omega) (by omega)
    rw [take_one hr hp] at hk
    have hd : ((m + 1 : Nat) : Int) - 1 = (m : Int) := by omega
    rw [hd]
    by_cases h1 : n ≤ p
    · refine ⟨k0 + 2, fun k hkk => ?_⟩
      obtain ⟨j, rfl⟩ : ∃ j, k = j + 2 := ⟨k - 2, by omega⟩
      have q := hk (j + 1) (by omega)
      dsimp only at q ⊢
      rw [readBS_none (by rw [readB, if_pos h1]), id_take.f, q, Option.bind_some, if_pos h1, if_neg (by decide), id_take.j0, if_pos rfl]
    have hdec : decide ((m : Int) < 0) = false := decide_eq_false (by omega)
    have hw1 : wrap64 ((p : Int) + 1) = ((p + 1 : Nat) : Int) := by rw [wrap_small (by omega) (by omega)]; omega
    have hw2 : wrap64 ((p : Int) + 2) = ((p + 2 : Nat) : Int) := by rw [wrap_small (by omega) (by omega)]; omega
    have hwm : wrap64 ((m : Int) - 1) = (m : Int) - 1 := wrap_small (by omega) (by omega)
    have hw01 : wrap64 (0 + 1) = 1 := wrap_small (by omega) (by omega)
    have hw11 : wrap64 (1 + 1) = 2 := wrap_small (by omega) (by omega)
    by_cases h2 : bitN l p = 0
    · obtain ⟨k1, hk1⟩ := take_res (n := (n : Int)) (p := ((p + 1 : Nat) : Int)) (w := 1) hb hl (by omega) (by omega)
      rw [take_one hr (by omega)] at hk1
      refine ⟨max k0 k1 + 2, fun k hkk => ?_⟩
      obtain ⟨j, rfl⟩ : ∃ j, k = j + 2 := ⟨k - 2, by omega⟩
      have q := hk (j + 1) (by omega)
      have q1 := hk1 j (by omega)
      dsimp only at q q1 ⊢
      rw [id_take.f, q, Option.bind_some, if_neg h1, if_pos rfl, id_take.j0, hdec, if_neg (by decide), if_pos (by rw [h2]; rfl), hw1, q1, Option.bind_some]
      by_cases h3 : n ≤ p + 1
      · rw [if_pos h3, if_neg (by decide), readBS_none (by rw [readB, if_neg h1, if_pos h2, if_pos h3])]
      · rw [if_neg h3, if_pos rfl, hw2, readBS_some (by rw [readB, if_neg h1, if_pos h2, if_neg h3])]
        have hbit := bitN_lt l (p + 1)
        have : ((bitN l (p + 1) : Int) == 1) = (bitN l (p + 1) == 1) := by
          by_cases e : bitN l (p + 1) = 1
          · rw [e]; rfl
          · rw [beq_eq_false_iff_ne.2 e]; exact beq_eq_false_iff_ne.2 (by omega)
        rw [this]
        rfl
    · have hbit := bitN_lt l p
      obtain ⟨k1, hk1⟩ := idtake_ev m (p := p + 1) hb hl hr (by omega) (by omega)
      cases hx : readB m l n (p + 1) with
      | none =>
        rw [readBS_none hx] at hk1
        refine ⟨max k0 k1 + 3, fun k hkk => ?_⟩
        obtain ⟨j, rfl⟩ : ∃ j, k = j + 3 := ⟨k - 3, by omega⟩
        have q := hk (j + 2) (by omega)
        have q1 := hk1 j (by omega)
        dsimp only at q q1 ⊢
        rw [id_take.f, q, Option.bind_some, if_neg h1, if_pos rfl, id_take.j0, hdec, if_neg (by decide), if_neg (by omega), hw1, id_take.l0, if_pos (by decide), hwm, q1, Option.bind_some, if_pos (by decide), readBS_none (by rw [readB, if_neg h1, if_neg h2, hx])]
      | some x =>
        obtain ⟨a, r⟩ := x
        rw [readBS_some hx] at hk1
        have hr1 := readB_le m hx
        obtain ⟨k2, hk2⟩ := idtake_ev m (p := r) hb hl hr (by omega) (by omega)
        cases hy : readB m l n r with
        | none =>
          rw [readBS_none hy] at hk2
          refine ⟨max k0 (max k1 k2) + 4, fun k hkk => ?_⟩
          obtain ⟨j, rfl⟩ : ∃ j, k = j + 4 := ⟨k - 4, by omega⟩
          have q := hk (j + 3) (by omega)
          have q1 := hk1 (j + 1) (by omega)
          have q2 := hk2 j (by omega)
          dsimp only at q q1 q2 ⊢
          rw [id_take.f, q, Option.bind_some, if_neg h1, if_pos rfl, id_take.j0, hdec, if_neg (by decide), if_neg (by omega), hw1, id_take.l0, if_pos (by decide), hwm, q1, Option.bind_some]
          dsimp only
          rw [if_neg (by omega), if_pos (by simp), hw01, id_take.l0, if_pos (by decide), hwm, q2, Option.bind_some, if_pos (by decide), readBS_none (by rw [readB, if_neg h1, if_neg h2, hx]; dsimp only; rw [hy])]
        | some y =>
          obtain ⟨b, s⟩ := y
          rw [readBS_some hy] at hk2
          refine ⟨max k0 (max k1 k2) + 5, fun k hkk => ?_⟩
          obtain ⟨j, rfl⟩ : ∃ j, k = j + 5 := ⟨k - 5, by omega⟩
          have q := hk (j + 4) (by omega)
          have q1 := hk1 (j + 2) (by omega)
          have q2 := hk2 (j + 1) (by omega)
          dsimp only at q q1 q2 ⊢
          rw [id_take.f, q, Option.bind_some, if_neg h1, if_pos rfl, id_take.j0, hdec, if_neg (by decide), if_neg (by omega), hw1, id_take.l0, if_pos (by decide), hwm, q1, Option.bind_some]
          dsimp only
          rw [if_neg (by omega), if_pos (by simp), hw01, id_take.l0, if_pos (by decide), hwm, q2, Option.bind_some]
          dsimp only
          rw [if_neg (by omega), if_pos (by simp), hw11, id_take.l0, if_neg (by decide), readBS_some (by rw [readB, if_neg h1, if_neg h2, hx]; dsimp only; rw [hy])]
          simp [T.toS, S24_eta]
end Go.Proofs.Ytlhaofbncoijfaa.Math
namespace Go.Proofs.Ytlhaofbncoijfaa.HandF
set_option linter.unusedVariables false
set_option linter.unusedSimpArgs false
open Go.RowKit Go.Shelf Go.Proofs.Ytlhaofbncoijfaa.X Go.Proofs.Ytlhaofbncoijfaa.Blocks Go.Proofs.Ytlhaofbncoijfaa.Nest Go.Proofs.Ytlhaofbncoijfaa.Tree
open Go.Proofs.Ytlhaofbncoijfaa.Math (Row Bytes bitsT nodeBits addB add_row LayS putRes)
open Go.Proofs.Ytlhaofbncoijfaa.Hand (stepB clone_calls)
open Go.Proofs.YtlhaofbncoijfaaW.PrintWords Go.Proofs.YtlhaofbncoijfaaW.PrintLast Go.Proofs.YtlhaofbncoijfaaW.PrintMore
attribute [local go_sem] Oper.semAt_some
/-- A row of bytes that a function has made. -/
abbrev RowAt (W : World) (base : Nat) (v : Value) (l : List Int) : Prop := Kd.R (Kd.int .u8) 5 W base (fun _ => True) v l
theorem leaf55 (b : Bool) (A : Option Addr) (n c : Nat) (w : World) : Calls Try.prog 55 #[.agg #[.bool b, .slice A n c]] w fun e w' => e = .returned (.bool ((n : Int) == 0)) ∧ Below w.heap.size w w' := by
  have hu24 := Try.underlying24
  have hu22 := Try.underlying22
  have g := blk_new w (.cells #[.bool b, .slice A n c] 24)
  have c0 := cell0 g
  have c1 := cell1 g
  go_enter Try.func55, Try.ntmps55
  go_wp2_with fail
  go_ret
  exact ⟨rfl, (Below.refl _ _).alloc (Nat.le_refl _) _⟩
theorem one44 (b : Bool) (A : Option Addr) (n c : Nat) (w : World) : Calls Try.prog 44 #[.agg #[.bool b, .slice A n c]] w fun e w' => e = .returned (.bool (((n : Int) == 0) && b)) ∧ Below w.heap.size w w' := by
  have hu24 := Try.underlying24
  have hu22 := Try.underlying22
  have g := blk_new w (.cells #[.bool b, .slice A n c] 24)
  have c0 := cell0 g
  have c1 := cell1 g
  have HG := Lib.hid g
  have HB : Hid (Below w.heap.size w (w.alloc (.cells #[.bool b, .slice A n c] 24))) := Lib.hid ((Below.refl _ _).alloc (Nat.le_refl _) _)
  clear g
  go_enter Try.func44, Try.ntmps44
  go_wp2_with fail
  refine (leaf55 b A n c _).mono ?_
  rintro e w1 ⟨rfl, hb⟩
  have HB1 := Lib.hid (HB.out.trans (hb.mono HB.out.size))
  have d0 := cell0 (blk_below HG.out hb)
  clear hb c0 c1
  obtain ⟨x, hx⟩ : ∃ x, ((n : Int) == 0) = x := ⟨_, rfl⟩
  cases x
  all_goals
    go_wp2_with fail
    go_ret
    exact ⟨by simp [hx], HB1.out⟩
/-- What Put lays, at a right row. -/
theorem put54 (A : Option Addr) (c : Nat) {l : List Int} {m : Nat} (v wd : Int) (L : List Bool) (w : World) (hr : Kd.C (Kd.int .u8) w A l.length l) (hc : l.length ≤ c) (h : Row l m) (hl : l.length + 9 ≤ 140737488355328)
    (hv : 0 ≤ v) (hv2 : v < 18446744073709551616) (hp : putRes l (m : Int) v wd = ((addB L l m).1, (addB L l m).2, 0)) :
    Calls Try.prog 54 #[.slice A l.length c, .int .i64 (m : Int), .int .u64 v, .int .i64 wd] w fun e w' => ∃ v0 : Value, e = .returned (.tuple #[v0, .int .i64 (addB L l m).2, .int .i64 0]) ∧ RowAt w' w.heap.size v0 (addB L l m).1 ∧ Below w.heap.size w w' := by
  obtain ⟨n0, n1⟩ := Math.small_i64 h (by omega)
  exact bits_Put.calls A c l (m : Int) v wd _ _ _ w hr hc (by rw [Math.put_res h.bytes hl n0 n1 hv hv2, hp])
abbrev kidsL (L : List Item) : List Bool := L.flatMap (fun x => nodeBits x.2.1)
/-- What stands between two rounds. -/
structure LayI (w : World) (ob Bt Bd : Nat) (k : Kid) (wl : World) (L : List Item) (l : List Int) (m : Nat) (n : Nat) (W : World) : Prop where
  below : Below w.heap.size w W
  num : W.heap[w.heap.size]? = some (.cells #[.int .i64 (addB (kidsL (L.take n)) l m).2] 3 (0, 0))
  out : ∃ sv, W.heap[ob]? = some (.cells #[sv] 43 (0, 0)) ∧ RowAt W w.heap.size sv (addB (kidsL (L.take n)) l m).1
  tree : W.heap[Bt]? = some (.cells #[.bool k.1.f0, .slice k.2.1 k.1.f1.length k.2.2] 24 (0, 0))
  depth : W.heap[Bd]? = some (.cells #[.int .i64 0] 3 (0, 0))
  sees : Sees wl W
  size : w.heap.size < W.heap.size ∧ ob < W.heap.size
theorem rowAt_cells {W W' : World} {base : Nat} {v : Value} {l : List Int} (h : RowAt W base v l) (hs : ∀ (k : Nat) (o : Obj), W.heap[k]? = some o → o.isCells = true → (∃ c, o = .cells c 5 (0, 0)) → W'.heap[k]? = some o) : RowAt W' base v l :=
  Kd.R_mono (Kd.R_step (Kd.R_bound h) (fun k hk _ => by
    obtain ⟨_, _, _, q, hq, cells, hc⟩ := hk
    have hq5 : q = 5 := by simpa [Kd.int, Kd.scalar, Kd.E] using hq
    subst hq5
    rw [hs k _ hc rfl ⟨_, rfl⟩, hc])) (fun _ _ => trivial)
theorem LayI.step {w : World} {ob Bt Bd : Nat} {k : Kid} {wl : World} {L : List Item} {l : List Int} {m n : Nat} {W W' : World} {S : Nat} (h : LayI w ob Bt Bd k wl L l m n W) (hs : StepN S W W') (hS : w.heap.size ≤ S) : LayI w ob Bt Bd k wl L l m n W' := by
  obtain ⟨sv, h1, h2⟩ := h.out
  refine ⟨h.below.trans (hs.below.mono hS), hs.cells _ _ h.num rfl, ⟨sv, hs.cells _ _ h1 rfl, rowAt_cells h2 (fun k o hk ho _ => hs.cells k o hk ho)⟩, hs.cells _ _ h.tree rfl, hs.cells _ _ h.depth rfl, fun p v hp => ?_, ⟨Nat.lt_of_lt_of_le h.size.1 hs.below.size, Nat.lt_of_lt_of_le h.size.2 hs.below.size⟩⟩
  have h3 := h.sees p v hp
  unfold World.cell? at h3 ⊢
  cases hb : W.heap[p.block]? with
  | none => rw [hb] at h3; simp at h3
  | some o =>
    have ho : o.isCells = true := by
      rw [hb] at h3
      cases o with
      | cells c t f => rfl
      | _ => simp at h3
    rw [hs.cells _ _ hb ho, ← hb]
    exact h3
/-- A round that is done. -/
theorem lay_on {w : World} {ob Bt Bd S : Nat} {k : Kid} {wl : World} {L : List Item} {l l' : List Int} {m n mm : Nat} {W W2 : World} {x : Item} {v0 : Value} (h : LayI w ob Bt Bd k wl L l m n W) (hx : L[n]? = some x)
    (nb : ∀ (p : Addr) (v : Value), wl.cell? p = some v → p.block ≠ w.heap.size ∧ p.block ≠ ob) (hob : w.heap.size < ob) (hBt : ob < Bt) (hBd : Bt < Bd) (hS : ob < S)
    (e : addB (kidsL (L.take n)) l m = (l', ((mm : Nat) : Int))) (hb : Below W.heap.size W W2) (hrow : RowAt W2 W.heap.size v0 (addB (nodeBits x.2.1) l' mm).1) :
    Keep S W ((W2.setCell ⟨ob, 0, none⟩ v0).setCell ⟨w.heap.size, 0, none⟩ (.int .i64 (addB (nodeBits x.2.1) l' mm).2)) ∧
    LayI w ob Bt Bd k wl L l m (n + 1) ((W2.setCell ⟨ob, 0, none⟩ v0).setCell ⟨w.heap.size, 0, none⟩ (.int .i64 (addB (nodeBits x.2.1) l' mm).2)) := by
  have hadd : addB (kidsL (L.take (n + 1))) l m = addB (nodeBits x.2.1) l' mm := by
    rw [List.take_add_one, hx]
    show ((L.take n ++ [x]).flatMap (fun x => nodeBits x.2.1)).foldl stepB (l, (m : Int)) = _
    rw [List.flatMap_append, List.foldl_append]
    have e' : (kidsL (L.take n)).foldl stepB (l, (m : Int)) = _ := e
    rw [show (L.take n).flatMap (fun x => nodeBits x.2.1) = kidsL (L.take n) from rfl, e']
    simp
  obtain ⟨sv, h1, h2⟩ := h.out
  have hsz := h.size
  have bN := blk_below h.num hb
  have bO := blk_below h1 hb
  have bT := blk_below h.tree hb
  have bD := blk_below h.depth hb
  have far : ∀ j, j ≠ w.heap.size → j ≠ ob → ((W2.setCell ⟨ob, 0, none⟩ v0).setCell ⟨w.heap.size, 0, none⟩ (.int .i64 (addB (nodeBits x.2.1) l' mm).2)).heap[j]? = W2.heap[j]? := fun j h1 h2 => by
    rw [set_other (by simpa using h1), set_other (by simpa using h2)]
  refine ⟨(Keep.fresh hb).trans ((Keep.set _ _ hS).trans (Keep.set _ _ (show w.heap.size < S by omega))), ?_⟩
  refine ⟨((h.below.trans (hb.mono h.below.size)).setCell (show w.heap.size ≤ ob by omega) _).setCell (Nat.le_refl _) _, ?_, ⟨v0, ?_, ?_⟩, (far _ (by omega) (by omega)).trans bT, (far _ (by omega) (by omega)).trans bD, fun p v hp => ?_, ?_⟩
  · rw [hadd]
    exact one_setCell (other_set bN (by omega))
  · exact other_set (one_setCell bO) (by omega)
  · rw [hadd]
    refine Kd.R_mono (Kd.R_far (Kd.R_far (Kd.R_lower (Kd.R_bound hrow) (Nat.le_of_lt hsz.1)) (fun j hj => ?_) _) (fun j hj => ?_) _) (fun _ _ => trivial)
    · have := hj.2.1; show j ≠ ob; omega
    · have := hj.2.1; show j ≠ w.heap.size; omega
  · have hne := nb p v hp
    have := h.sees p v hp
    rw [World.cell?_of_block (far p.block hne.1 hne.2)]
    exact below_cell hb this
  · have := hb.size
    rw [World.size_setCell, World.size_setCell]
    omega
/-- A world with two blocks struck out. -/
def struck (w : World) (a b : Nat) : World := (w.putObj a (.deferred none)).putObj b (.deferred none)
theorem struck_heap {w : World} {a b j : Nat} (ha : j ≠ a) (hb : j ≠ b) : (struck w a b).heap[j]? = w.heap[j]? := (World.putObj_heap_other hb).trans (World.putObj_heap_other ha)
theorem struck_no {w : World} {a b : Nat} (ha : a < w.heap.size) (hb : b < w.heap.size) (p : Addr) (v : Value) (h : (struck w a b).cell? p = some v) : p.block ≠ a ∧ p.block ≠ b := by
  constructor
  · intro e
    by_cases hab : a = b
    · subst hab
      have : (struck w a a).heap[p.block]? = some (.deferred none) := by rw [e]; exact World.putObj_heap_same (by rw [size_put]; omega)
      simp [World.cell?, this] at h
    · have : (struck w a b).heap[p.block]? = some (.deferred none) := by rw [e]; exact (World.putObj_heap_other hab).trans (World.putObj_heap_same (by omega))
      simp [World.cell?, this] at h
  · intro e
    have : (struck w a b).heap[p.block]? = some (.deferred none) := by rw [e]; exact World.putObj_heap_same (by rw [size_put]; omega)
    simp [World.cell?, this] at h
theorem struck_sees {w W : World} {a b : Nat} (ha : a < w.heap.size) (hb : b < w.heap.size) (h : Below w.heap.size w W) : Sees (struck w a b) W := fun p v hp => by
  have hne := struck_no ha hb p v hp
  rw [World.cell?_of_block (struck_heap hne.1 hne.2)] at hp
  exact below_cell h hp
theorem nodesL_two : ∀ (m : Nat) (d : Int) (t : T) (x : Int × S24), x ∈ nodesL m d t.toS → x.2.f1.length ≤ 2
  | 0, d, t, x, h => by
    rw [nodesL, List.mem_singleton] at h
    subst h
    cases t <;> simp [T.toS]
  | m + 1, d, t, x, h => by
    rw [nodesL, List.mem_cons] at h
    rcases h with rfl | h
    · cases t <;> simp [T.toS]
    · cases t with
      | leaf b => simp [T.toS] at h
      | node a b =>
        simp only [T.toS, List.map_cons, List.map_nil, List.flatten_cons, List.flatten_nil, List.append_nil, List.mem_append] at h
        rcases h with h | h
        · exact nodesL_two m (d + 1) a x h
        · exact nodesL_two m (d + 1) b x h
theorem kidsL_nodes {L : List Item} {m : Nat} {d : Int} {s : S24} (h : L.map (fun x => (x.1, x.2.1)) = nodesL m d s) : kidsL L = (nodesL m d s).flatMap (fun x => nodeBits x.2) := by
  rw [← h, List.flatMap_map]
set_option maxRecDepth 100000 in
set_option maxHeartbeats 4000000 in
theorem lay_good (A : Option Addr) (c : Nat) {l : List Int} {m : Nat} (k : Kd2) (t : T) (w : World) (hr : Kd.C (Kd.int .u8) w A l.length l) (hc : l.length ≤ c) (h : Row l m) (hl : m + (bitsT t.norm).length + 80 ≤ 1125899906842624)
    (hk : k.1 = t.toS) (ht : t.right) (hkl : k.1.f1.length ≤ k.2.2) (hkC : Kd.C k24 w k.2.1 k.1.f1.length k.1.f1) :
    Calls Try.prog 32 #[.slice A l.length c, .int .i64 (m : Int), kv k] w fun e w' => ∃ v0 : Value, e = .returned (.tuple #[v0, .int .i64 (addB (bitsT t.norm) l m).2, .int .i64 0]) ∧ RowAt w' w.heap.size v0 (addB (bitsT t.norm) l m).1 ∧ Below w.heap.size w w' := by
  have hlen0 := h.len
  obtain ⟨n0, n1⟩ := Math.small_i64 h (by omega)
  have HR := Lib.hid hr
  have HROW := Lib.hid h
  have HLEN := Lib.hid hl
  have HK := Lib.hid hk
  have HT := Lib.hid ht
  have HKL := Lib.hid hkl
  have HKC := Lib.hid hkC
  have RB : Hid (X.bits_Right.f l (m : Int) = some true) := Lib.hid (by rw [Math.right_some h.bytes (by omega) n0 n1, h.right])
  have RT : Hid (rightB k.1 = true) := Lib.hid (by rw [hk, right_T]; exact decide_eq_true ht)
  have HB9 : Hid (l.length + 9 ≤ 140737488355328) := Lib.hid (by omega)
  clear hlen0 n0 n1 hr h hl hk ht hkl hkC
  have hu24 := Try.underlying24
  have hu43 := Try.underlying43
  have hmix : Try.prog.follows .mixedOrders = true := by kernel_rfl
  refine (callsIn_wide (n := 3)).1 ?_
  refine callsIn_of_wp_marks Try.func32 rfl trivial ?_ rfl
  simp only [Try.ntmps32, List.size_toArray, List.length_cons, List.length_nil, Nat.reduceAdd, Nat.reduceSub, Array.replicate_succ, Array.replicate_zero, List.push_toArray, List.append_toArray, List.nil_append, List.cons_append]
  have hB0 : Below w.heap.size w ((w.alloc (.cells #[.int .i64 (m : Int)] 3)).alloc (.cells #[.bool k.1.f0, .slice k.2.1 k.1.f1.length k.2.2] 24)) := ((Below.refl _ _).alloc (Nat.le_refl _) _).alloc (by simp) _
  obtain ⟨W0, hW0⟩ : ∃ W0, (w.alloc (.cells #[.int .i64 (m : Int)] 3)).alloc (.cells #[.bool k.1.f0, .slice k.2.1 k.1.f1.length k.2.2] 24) = W0 := ⟨_, rfl⟩
  have gN : W0.heap[w.heap.size]? = some (.cells #[.int .i64 (m : Int)] 3 (0, 0)) := by rw [← hW0]; exact alloc_at (alloc_new w _) _
  have gT : W0.heap[w.heap.size + 1]? = some (.cells #[.bool k.1.f0, .slice k.2.1 k.1.f1.length k.2.2] 24 (0, 0)) := by
    rw [← hW0]; have := alloc_new (w.alloc (.cells #[.int .i64 (m : Int)] 3)) (.cells #[.bool k.1.f0, .slice k.2.1 k.1.f1.length k.2.2] 24); rwa [World.size_alloc] at this
  rw [hW0] at hB0
  have cn := cell_of_one gN
  have GN := Lib.hid gN
  have GT := Lib.hid gT
  have HB0 := Lib.hid hB0
  clear gN gT hB0
  gi_wp2
  refine ⟨trivial, (callsIn_wide.2 (bits_Right.calls A c l (m : Int) true _ (Kd.C_below HR.out HB0.out) hc RB.out)).mono ?_⟩
  rintro e w1 ⟨rfl, ⟨nd, rfl⟩⟩
  have HB1 := Lib.hid (pw_below_drewN HB0.out nd)
  have G1 : Hid ((W0.drewN nd).heap[w.heap.size + 1]? = some (.cells #[.bool k.1.f0, .slice k.2.1 k.1.f1.length k.2.2] 24 (0, 0))) := GT
  have N1 : Hid ((W0.drewN nd).heap[w.heap.size]? = some (.cells #[.int .i64 (m : Int)] 3 (0, 0))) := GN
  obtain ⟨w1, hw1⟩ : ∃ w1, W0.drewN nd = w1 := ⟨_, rfl⟩
  rw [hw1] at HB1 G1 N1 ⊢
  clear hw1 cn GT GN hW0 HB0
  have k0 := cell0 G1.out
  have k1 := cell1 G1.out
  gi_wp2
  refine ⟨trivial, (callsIn_wide.2 (right_calls k w1 ⟨HKL.out, Kd.C_below HKC.out HB1.out⟩)).mono ?_⟩
  rintro e w2 ⟨rfl, hb2⟩
  have HB2 := Lib.hid (HB1.out.trans (hb2.mono HB1.out.size))
  have G2 := Lib.hid (blk_below G1.out hb2)
  have N2 := Lib.hid (blk_below N1.out hb2)
  rw [RT.out]
  clear hb2 k0 k1 HB1 G1 N1
  gi_wp2
  refine ⟨trivial, (callsIn_wide.2 (clone_calls A c l w2 (Kd.C_below HR.out HB2.out) (by have := HB9.out; omega))).mono ?_⟩
  rintro e w3 ⟨v0, rfl, hown, hb3⟩
  obtain ⟨A', c', rfl⟩ := own_slice hown
  have HB3 := Lib.hid (HB2.out.trans (hb3.mono HB2.out.size))
  have G3 := Lib.hid (blk_below G2.out hb3)
  have N3 := Lib.hid (blk_below N2.out hb3)
  have NL := Lib.hid (Array.getElem?_eq_some_iff.1 N2.out).1
  have NS := Lib.hid hb3.size
  have R3 : Hid (RowAt w3 w.heap.size (.slice A' l.length c') l) := Lib.hid (Kd.R_lower (Kd.R_of_own hown (fun _ _ => trivial)) HB2.out.size)
  have hk0 := cell0 (blk_alloc G3.out (.cells #[.slice A' l.length c'] 43))
  have hk1 := cell1 (blk_alloc G3.out (.cells #[.slice A' l.length c'] 43))
  have N3X := N3
  clear hown hb3 HB2 G2 N2
  gi_wp2
  obtain ⟨w4, hw4⟩ : ∃ w4, w3.alloc (.cells #[.slice A' l.length c'] 43) = w4 := ⟨_, rfl⟩
  have hb4 : Below w3.heap.size w3 w4 := by rw [← hw4]; exact (Below.refl _ _).alloc (Nat.le_refl _) _
  have go4 : w4.heap[w3.heap.size]? = some (.cells #[.slice A' l.length c'] 43 (0, 0)) := by rw [← hw4]; exact alloc_new _ _
  rw [hw4]
  have HB4 := Lib.hid (HB3.out.trans (hb4.mono HB3.out.size))
  have N4 := Lib.hid (blk_below N3.out hb4)
  have O4 := Lib.hid go4
  have R4 := Lib.hid (Kd.R_below R3.out hb4)
  clear hb4 go4 hw4 hk0 hk1 R3 N3
  refine ⟨trivial, (callsIn_wide.2 (norm_calls k t w4 HK.out HKL.out (Kd.C_below HKC.out HB4.out))).mono ?_⟩
  rintro e w5 ⟨k', rfl, hk', fk, hb5⟩
  have HB5 := Lib.hid (HB4.out.trans (hb5.mono HB4.out.size))
  have N5 := Lib.hid (blk_below N4.out hb5)
  have O5 := Lib.hid (blk_below O4.out hb5)
  have R5 := Lib.hid (Kd.R_below R4.out hb5)
  have FK := Lib.hid fk
  have HK' := Lib.hid hk'
  have SZ4 := Lib.hid (Array.getElem?_eq_some_iff.1 O4.out).1
  have SZ3 := Lib.hid HB3.out.size
  have LT5 := Lib.hid hb5.size
  clear hk' fk hb5 HB4 N4 O4 R4
  gi_wp2
  refine ⟨trivial, (nodes_calls _ _ _ _ _ _ _).mono ?_⟩
  rintro e w6 ⟨rfl, rfl⟩
  gi_wp2
  have hlies : Kid.Lies (struck w5 w.heap.size w3.heap.size) k' := by
    have hmv := FK.out.move (W' := struck w5 w.heap.size w3.heap.size) (fun j hj => struck_heap (by have := SZ4.out; have := SZ3.out; omega) (by have := SZ4.out; omega))
    exact ⟨hmv.1, hmv.now⟩
  obtain ⟨L, hL, _, hseq⟩ := nodes_seq 33 0 k' (struck w5 w.heap.size w3.heap.size) rfl (by omega) hlies
  have hbits : kidsL L = bitsT t.norm := by
    rw [kidsL_nodes hL, HK'.out]
    exact Math.nodesL_bits t.norm 33 0 (by have := (norm_right HT.out).1; omega)
  have htwo : ∀ (n : Nat) (x : Item), L[n]? = some x → x.Two := fun n x hx => by
    have hmem : (x.1, x.2.1) ∈ nodesL 33 0 k'.1 := by rw [← hL]; exact List.mem_map.2 ⟨x, List.mem_of_getElem? hx, rfl⟩
    rw [HK'.out] at hmem
    exact nodesL_two 33 0 t.norm _ hmem
  have nb := struck_no (w := w5) (a := w.heap.size) (b := w3.heap.size) (by have := SZ4.out; have := SZ3.out; have := LT5.out; omega) (by have := SZ4.out; have := LT5.out; omega)
  obtain ⟨Wl, hWl⟩ : ∃ Wl, (w5.alloc (.cells #[.bool k'.1.f0, .slice k'.2.1 k'.1.f1.length k'.2.2] 24)).alloc (.cells #[.int .i64 0] 3) = Wl := ⟨_, rfl⟩
  have hbl : Below w5.heap.size w5 Wl := by rw [← hWl]; exact ((Below.refl _ _).alloc (Nat.le_refl _) _).alloc (by simp) _
  have hsl : Wl.heap.size = w5.heap.size + 2 := by rw [← hWl]; simp
  have gt : Wl.heap[w5.heap.size]? = some (.cells #[.bool k'.1.f0, .slice k'.2.1 k'.1.f1.length k'.2.2] 24 (0, 0)) := by rw [← hWl]; exact alloc_at (alloc_new _ _) _
  have gd : Wl.heap[w5.heap.size + 1]? = some (.cells #[.int .i64 0] 3 (0, 0)) := by rw [← hWl]; have := alloc_new (w5.alloc (.cells #[.bool k'.1.f0, .slice k'.2.1 k'.1.f1.length k'.2.2] 24)) (.cells #[.int .i64 0] 3); rwa [World.size_alloc] at this
  rw [hWl]
  have hI0 : LayI w w3.heap.size w5.heap.size (w5.heap.size + 1) k' (struck w5 w.heap.size w3.heap.size) L l m 0 Wl :=
    ⟨HB5.out.trans (hbl.mono HB5.out.size), by simpa using blk_below N5.out hbl, ⟨_, blk_below O5.out hbl, by simpa using Kd.R_below R5.out hbl⟩, gt, gd,
      struck_sees (by have := SZ4.out; have := SZ3.out; have := LT5.out; omega) (by have := SZ4.out; have := LT5.out; omega) hbl, ⟨by have := SZ4.out; have := SZ3.out; have := LT5.out; omega, by have := SZ4.out; have := LT5.out; omega⟩⟩
  have HI0 := Lib.hid hI0
  have HBITS := Lib.hid hbits
  have HTWO := Lib.hid htwo
  have HSEQ := Lib.hid hseq
  have NB := Lib.hid nb
  have HSL := Lib.hid hsl
  have ORD : Hid (w.heap.size < w3.heap.size ∧ w3.heap.size < w5.heap.size ∧ w5.heap.size < Wl.heap.size) := Lib.hid ⟨by have h1 := (Array.getElem?_eq_some_iff.1 N3X.out).1; exact h1, by have := SZ4.out; have := LT5.out; omega, by omega⟩
  clear hlies hL hseq hbits htwo nb hbl hsl gt gd hWl hI0 R5 O5 N5 FK
  refine wpIn_rangeFunc_seqW (gf := 67) (lb := #[.pointer (some ⟨w5.heap.size + 1, 0, none⟩), .pointer (some ⟨w5.heap.size, 0, none⟩)]) rfl (enters_of Try.func67 (by kernel_rfl) rfl)
    (HSEQ.out w5.heap.size (w5.heap.size + 1) (Wl.heap.size + 2)) (fun _ => rfl)
    (fun n W => LayI w w3.heap.size w5.heap.size (w5.heap.size + 1) k' (struck w5 w.heap.size w3.heap.size) L l m n W) (fun _ _ => False)
    (fun n x W hx h => HTWO.out n x hx) (fun n W h => ⟨h.sees, h.tree, h.depth⟩)
    (fun n A B h hs => h.step hs (by have := ORD.out; omega)) (fun c A B h hs => h) HI0.out
    (fun x mm a' W' => a' = { tmps := #[.slice A l.length c, .int .i64 (m : Int), kv k, undef, .pointer (some ⟨w.heap.size, 0, none⟩), .pointer (some ⟨w.heap.size + 1, 0, none⟩), .slice none 0 0, .int .i64 0, .int .i64 0, .pointer (some ⟨w3.heap.size, 0, none⟩), undef, .pointer (some ⟨mm, 0, none⟩),
      .slice A l.length c, .int .i64 (m : Int), .bool true, .bool false, .bool false, .agg #[.bool k.1.f0, .slice k.2.1 k.1.f1.length k.2.2], .bool true, .bool false, .bool false, .slice A l.length c, .slice A' l.length c', .agg #[.bool k.1.f0, .slice k.2.1 k.1.f1.length k.2.2], kv k',
      .func (.func 67) #[] #[.pointer (some ⟨w5.heap.size + 1, 0, none⟩), .pointer (some ⟨w5.heap.size, 0, none⟩)], .int .i64 x.1, .agg #[.bool x.2.1.f0, .slice x.2.2.1 x.2.1.f1.length x.2.2.2], undef, undef, undef, undef, undef, undef, undef, undef, undef, undef, undef, undef, undef, undef, undef, undef, undef, undef, undef, undef, undef, undef, undef, undef, undef, undef, undef, undef, undef], defers := [] } ∧
      W'.heap[mm]? = some (.cells #[.bool x.2.1.f0, .slice x.2.2.1 x.2.1.f1.length x.2.2.2] 24 (0, 0)))
    (fun x m a' A B h hs => ⟨h.1, hs.cells _ _ h.2 rfl⟩) ?assign ?body ?done ?stop
  case assign =>
    intro l' x W' K' hK'
    have HK'' := Lib.hid hK'
    clear hK'
    unfold Item.enc
    gi_wp2
    refine HK''.out _ _ ?_ ?_ ⟨rfl, ?_⟩
    · exact (Below.refl _ _).alloc (Nat.le_refl _) _
    · simp
    · exact alloc_new _ _
  case stop =>
    rintro D c W _ h _
    exact h.elim
  case body =>
    rintro lp n x mm a' W hx hI ⟨rfl, hA⟩ hm1 hm2
    obtain ⟨ls, es, rs, _⟩ := add_row (kidsL (L.take n)) HROW.out
    obtain ⟨sv, hO, hRow⟩ := hI.out
    have hN := hI.num
    rw [es] at hN hRow
    dsimp only at hN hRow
    obtain ⟨mj, hmj⟩ : ∃ mj, m + (kidsL (L.take n)).length = mj := ⟨_, rfl⟩
    rw [hmj] at es rs hN
    have hbound : mj + 80 ≤ 1125899906842624 := by
      have h1 : (kidsL (L.take n)).length ≤ (bitsT t.norm).length := by
        rw [← HBITS.out]
        conv => rhs; rw [← List.take_append_drop n L]
        show _ ≤ ((L.take n ++ L.drop n).flatMap (fun x => nodeBits x.2.1)).length
        rw [List.flatMap_append, List.length_append]
        exact Nat.le_add_right _ _
      have := HLEN.out
      omega
    have hls : ls.length + 9 ≤ 140737488355328 := by have := rs.len; omega
    obtain ⟨A1, c1, rfl, hc1, hC1⟩ := Kd.R_reads hRow
    have HX := Lib.hid hx
    have HI := Lib.hid hI
    have ES := Lib.hid es
    have RS := Lib.hid rs
    have HLS := Lib.hid hls
    have HC1 := Lib.hid hC1
    have HA := Lib.hid hA
    have HO := Lib.hid hO
    have HN := Lib.hid hN
    have x0 := cell0 hA
    have x1 := cell1 hA
    clear hx hI es rs hls hC1 hA hO hN hRow hbound hmj hm1 hm2
    gi_wp2
    refine ⟨trivial, (CallsIn.inRound lp (callsIn_wide.2 (one44 _ _ _ _ _))).mono ?_⟩
    rintro e W1 ⟨rfl, hb1⟩
    have HB1 := Lib.hid hb1
    have cn := cell_of_one (blk_below HN.out hb1)
    have co := cell_of_one (blk_below HO.out hb1)
    have y0 := cell0 (blk_below HA.out hb1)
    have y1 := cell1 (blk_below HA.out hb1)
    clear hb1 x0 x1
    by_cases h0 : x.2.1.f1.length = 0
    · have e0 : ((x.2.1.f1.length : Int) == 0) = true := beq_iff_eq.2 (by omega)
      obtain ⟨o, ho⟩ : ∃ o, x.2.1.f0 = o := ⟨_, rfl⟩
      rw [e0, ho]
      cases o
      · have HNB : Hid (nodeBits x.2.1 = [false, false]) := Lib.hid (by unfold nodeBits; rw [if_pos h0, ho])
        clear ho h0
        gi_wp2
        refine ⟨trivial, (CallsIn.inRound lp (callsIn_wide.2 (leaf55 _ _ _ _ _))).mono ?_⟩
        rintro e W2 ⟨rfl, hb2⟩
        have HB1 := Lib.hid (HB1.out.trans (hb2.mono HB1.out.size))
        clear cn co y0 y1
        have cn := cell_of_one (blk_below HN.out HB1.out)
        have co := cell_of_one (blk_below HO.out HB1.out)
        rw [e0]
        clear hb2
        gi_wp2
        refine ⟨trivial, (CallsIn.inRound lp (callsIn_wide.2 (put54 A1 c1 0 2 [false, false] _ (Kd.C_below HC1.out HB1.out) hc1 RS.out HLS.out (by decide) (by decide) (Math.put02 RS.out)))).mono ?_⟩
        rintro e W3 ⟨v0, rfl, hrow, hb3⟩
        obtain ⟨A2, c2, rfl⟩ := Kd.R_slice hrow
        have hbw := HB1.out.trans (hb3.mono HB1.out.size)
        have LO := Lib.hid (lay_on (S := Wl.heap.size) HI.out HX.out NB.out ORD.out.1 ORD.out.2.1 (Nat.lt_succ_self _) (by have := ORD.out; omega) ES.out hbw (by rw [HNB.out]; exact Kd.R_lower hrow HB1.out.size))
        rw [HNB.out] at LO
        have zn := other_set (b := w3.heap.size) (u := .slice A2 (addB [false, false] ls mj).1.length c2) (blk_below HN.out hbw) (Nat.ne_of_lt ORD.out.1)
        have co := cell_of_one (blk_below HO.out hbw)
        have fo := free_of_one (blk_below HO.out hbw)
        have cn := cell_of_one zn
        have fn := free_of_one zn
        have cn' := cell_of_one (blk_below HN.out hbw)
        have fn' := free_of_one (blk_below HN.out hbw)
        have on1 := Nat.ne_of_lt ORD.out.1
        have on2 := Nat.ne_of_gt ORD.out.1
        clear hrow hb3 hbw zn
        gi_wp2
        exact ⟨LO.out.1, LO.out.2⟩
      · have HNB : Hid (nodeBits x.2.1 = [false, true]) := Lib.hid (by unfold nodeBits; rw [if_pos h0, ho])
        clear ho h0
        gi_wp2
        refine ⟨trivial, (CallsIn.inRound lp (callsIn_wide.2 (put54 A1 c1 1 2 [false, true] _ (Kd.C_below HC1.out HB1.out) hc1 RS.out HLS.out (by decide) (by decide) (Math.put12 RS.out)))).mono ?_⟩
        rintro e W3 ⟨v0, rfl, hrow, hb3⟩
        obtain ⟨A2, c2, rfl⟩ := Kd.R_slice hrow
        have hbw := HB1.out.trans (hb3.mono HB1.out.size)
        have LO := Lib.hid (lay_on (S := Wl.heap.size) HI.out HX.out NB.out ORD.out.1 ORD.out.2.1 (Nat.lt_succ_self _) (by have := ORD.out; omega) ES.out hbw (by rw [HNB.out]; exact Kd.R_lower hrow HB1.out.size))
        rw [HNB.out] at LO
        have zn := other_set (b := w3.heap.size) (u := .slice A2 (addB [false, true] ls mj).1.length c2) (blk_below HN.out hbw) (Nat.ne_of_lt ORD.out.1)
        have co := cell_of_one (blk_below HO.out hbw)
        have fo := free_of_one (blk_below HO.out hbw)
        have cn := cell_of_one zn
        have fn := free_of_one zn
        have cn' := cell_of_one (blk_below HN.out hbw)
        have fn' := free_of_one (blk_below HN.out hbw)
        have on1 := Nat.ne_of_lt ORD.out.1
        have on2 := Nat.ne_of_gt ORD.out.1
        clear hrow hb3 hbw zn
        gi_wp2
        exact ⟨LO.out.1, LO.out.2⟩
    · have e0 : ((x.2.1.f1.length : Int) == 0) = false := beq_eq_false_iff_ne.2 (by omega)
      have HNB : Hid (nodeBits x.2.1 = [true]) := Lib.hid (by unfold nodeBits; rw [if_neg h0])
      clear h0
      rw [e0]
      gi_wp2
      refine ⟨trivial, (CallsIn.inRound lp (callsIn_wide.2 (leaf55 _ _ _ _ _))).mono ?_⟩
      rintro e W2 ⟨rfl, hb2⟩
      have HB1 := Lib.hid (HB1.out.trans (hb2.mono HB1.out.size))
      clear cn co y0 y1
      have cn := cell_of_one (blk_below HN.out HB1.out)
      have co := cell_of_one (blk_below HO.out HB1.out)
      rw [e0]
      clear hb2
      gi_wp2
      refine ⟨trivial, (CallsIn.inRound lp (callsIn_wide.2 (put54 A1 c1 1 1 [true] _ (Kd.C_below HC1.out HB1.out) hc1 RS.out HLS.out (by decide) (by decide) (Math.put11 RS.out)))).mono ?_⟩
      rintro e W3 ⟨v0, rfl, hrow, hb3⟩
      obtain ⟨A2, c2, rfl⟩ := Kd.R_slice hrow
      have hbw := HB1.out.trans (hb3.mono HB1.out.size)
      have LO := Lib.hid (lay_on (S := Wl.heap.size) HI.out HX.out NB.out ORD.out.1 ORD.out.2.1 (Nat.lt_succ_self _) (by have := ORD.out; omega) ES.out hbw (by rw [HNB.out]; exact Kd.R_lower hrow HB1.out.size))
      rw [HNB.out] at LO
      have zn := other_set (b := w3.heap.size) (u := .slice A2 (addB [true] ls mj).1.length c2) (blk_below HN.out hbw) (Nat.ne_of_lt ORD.out.1)
      have co := cell_of_one (blk_below HO.out hbw)
      have fo := free_of_one (blk_below HO.out hbw)
      have cn := cell_of_one zn
      have fn := free_of_one zn
      have cn' := cell_of_one (blk_below HN.out hbw)
      have fn' := free_of_one (blk_below HN.out hbw)
      have on1 := Nat.ne_of_lt ORD.out.1
      have on2 := Nat.ne_of_gt ORD.out.1
      clear hrow hb3 hbw zn
      gi_wp2
      exact ⟨LO.out.1, LO.out.2⟩
  case done =>
    rintro D W hD hI hd
    obtain ⟨sv, hO, hRow⟩ := hI.out
    have hN := hI.num
    rw [List.take_length, HBITS.out] at hN hRow
    obtain ⟨A1, c1, rfl⟩ := Kd.R_slice hRow
    have co : W.drew.cell? ⟨w3.heap.size, 0, none⟩ = _ := cell_of_one hO
    have cn : W.drew.cell? ⟨w.heap.size, 0, none⟩ = _ := cell_of_one hN
    have co' := cell_of_one hO
    have cn' := cell_of_one hN
    have HRow := Lib.hid hRow
    have HB := Lib.hid hI.below
    have HM : Hid (Marks Wl.heap.size [{ target := .collected D, args := #[] }] W.drew) := Lib.hid ⟨[D], rfl, by simp, fun E hE => by obtain rfl := List.mem_singleton.1 hE; exact ⟨hD, hd⟩⟩
    clear hI hD hd hO hN hRow
    gi_wp2
    first | (gi_region_with_o (fail)) | fail
    all_goals
      gi_wp2
      refine leaves_marks _ _ HM.out ?_
      intro W2 hs
      have hsb := hs.below
      refine ⟨_, results_list rfl (by simp) (.tmp (.tmp (.tmp .nil))), ⟨_, rfl, ?_, ?_⟩⟩
      · exact rowAt_cells (Kd.R_drew HRow.out) (fun k o hk ho _ => hs.cells k o hk ho)
      · exact HB.out.drew.trans (hsb.mono (by have := ORD.out; omega))
end Go.Proofs.Ytlhaofbncoijfaa.HandF
namespace Go.Proofs.Ytlhaofbncoijfaa.HandF
set_option linter.unusedVariables false
set_option linter.unusedSimpArgs false
open Go.RowKit Go.Shelf Go.Proofs.Ytlhaofbncoijfaa.X Go.Proofs.Ytlhaofbncoijfaa.Blocks Go.Proofs.Ytlhaofbncoijfaa.Tree
open Go.Proofs.Ytlhaofbncoijfaa.Math (Row Bytes bitsT nodeBits addB add_row LayS putRes Ev)
open Go.Proofs.Ytlhaofbncoijfaa.Hand (stepB clone_calls own_empty info5)
open Go.Proofs.YtlhaofbncoijfaaW.PrintWords Go.Proofs.YtlhaofbncoijfaaW.PrintLast Go.Proofs.YtlhaofbncoijfaaW.PrintMore
set_option maxRecDepth 100000 in
set_option maxHeartbeats 4000000 in
theorem lay_bad (A : Option Addr) (c : Nat) (l : List Int) (n : Int) (k : Kd2) (w : World) (x y : Bool) (hr : Kd.C (Kd.int .u8) w A l.length l) (hc : l.length ≤ c) (hx : bits_Right.f l n = some x) (hy : rightB k.1 = y) (hxy : (x && y) = false)
    (hkl : k.1.f1.length ≤ k.2.2) (hkC : Kd.C k24 w k.2.1 k.1.f1.length k.1.f1) :
    Calls Try.prog 32 #[.slice A l.length c, .int .i64 n, kv k] w fun e w' => e = .returned (.tuple #[.slice none 0 0, .int .i64 0, .int .i64 2]) ∧ Below w.heap.size w w' := by
  have HR := Lib.hid hr
  have HX := Lib.hid hx
  have HY := Lib.hid hy
  have HKL := Lib.hid hkl
  have HKC := Lib.hid hkC
  clear hr hx hy hkl hkC
  have hu24 := Try.underlying24
  have hu43 := Try.underlying43
  obtain ⟨W0, hW0⟩ : ∃ W0, (w.alloc (.cells #[.int .i64 n] 3)).alloc (.cells #[.bool k.1.f0, .slice k.2.1 k.1.f1.length k.2.2] 24) = W0 := ⟨_, rfl⟩
  have hB0 : Below w.heap.size w W0 := by rw [← hW0]; exact ((Below.refl _ _).alloc (Nat.le_refl _) _).alloc (by simp) _
  have gN : W0.heap[w.heap.size]? = some (.cells #[.int .i64 n] 3 (0, 0)) := by rw [← hW0]; exact alloc_at (alloc_new w _) _
  have gT : W0.heap[w.heap.size + 1]? = some (.cells #[.bool k.1.f0, .slice k.2.1 k.1.f1.length k.2.2] 24 (0, 0)) := by
    rw [← hW0]; have := alloc_new (w.alloc (.cells #[.int .i64 n] 3)) (.cells #[.bool k.1.f0, .slice k.2.1 k.1.f1.length k.2.2] 24); rwa [World.size_alloc] at this
  have cn := cell_of_one gN
  have GT := Lib.hid gT
  have HB0 := Lib.hid hB0
  clear gN gT hB0
  go_enter Try.func32, Try.ntmps32
  go_wp2_with fail
  refine (bits_Right.calls A c l n x _ (Kd.C_below HR.out HB0.out) hc HX.out).mono ?_
  rintro e w1 ⟨rfl, ⟨nd, rfl⟩⟩
  have HB1 := Lib.hid (pw_below_drewN HB0.out nd)
  have G1 : Hid ((W0.drewN nd).heap[w.heap.size + 1]? = some (.cells #[.bool k.1.f0, .slice k.2.1 k.1.f1.length k.2.2] 24 (0, 0))) := GT
  obtain ⟨w1, hw1⟩ : ∃ w1, W0.drewN nd = w1 := ⟨_, rfl⟩
  rw [hw1] at HB1 G1 ⊢
  clear hw1 cn GT hW0 HB0
  have k0 := cell0 G1.out
  have k1 := cell1 G1.out
  cases x
  · go_wp2_with fail
    go_ret3
    exact ⟨rfl, HB1.out⟩
  · cases y
    · go_wp2_with fail
      refine (right_calls k w1 ⟨HKL.out, Kd.C_below HKC.out HB1.out⟩).mono ?_
      rintro e w2 ⟨rfl, hb2⟩
      have HB2 := Lib.hid (HB1.out.trans (hb2.mono HB1.out.size))
      rw [HY.out]
      clear hb2 k0 k1
      go_wp2_with fail
      go_ret3
      exact ⟨rfl, HB2.out⟩
    · cases hxy
/-- id.Lay. -/
theorem Lay32 (A : Option Addr) (c : Nat) (l : List Int) (n : Int) (k : Kd2) (w : World) (hr : Kd.C (Kd.int .u8) w A l.length l) (hc : l.length ≤ c) (hb : Bytes l) (hl : l.length ≤ 140737488351232) (n0 : -9223372036854775808 ≤ n) (n1 : n ≤ 9223372036854775807)
    (hkl : k.1.f1.length ≤ k.2.2) (hkC : Kd.C k24 w k.2.1 k.1.f1.length k.1.f1) :
    Calls Try.prog 32 #[.slice A l.length c, .int .i64 n, kv k] w fun e w' => ∃ v0 : Value, e = .returned (.tuple #[v0, .int .i64 (LayS l n k.1).2.1, .int .i64 (LayS l n k.1).2.2]) ∧ RowAt w' w.heap.size v0 (LayS l n k.1).1 ∧ Below w.heap.size w w' := by
  have hf := Math.right_some hb (by omega) n0 n1
  cases hxy : (Math.rightB l n && rightB k.1)
  · rw [Math.LayS_bad hxy]
    refine (lay_bad A c l n k w _ _ hr hc hf rfl hxy hkl hkC).mono ?_
    rintro e w' ⟨rfl, hb'⟩
    exact ⟨_, rfl, Kd.R_nil _ _ _ _ _, hb'⟩
  · rw [Bool.and_eq_true] at hxy
    obtain ⟨t, hk, ht⟩ := (right_iff _).1 hxy.2
    obtain ⟨r0, r1, _⟩ := Math.rightB_iff.1 hxy.1
    obtain ⟨m, rfl⟩ := Int.eq_ofNat_of_zero_le r0
    have hrow := Row.of_right hb hxy.1
    have hcnt := (norm_right ht).2
    have hbl := Math.bitsT_length t.norm
    have hlen := hrow.len
    rw [← hk, Math.LayS_good hxy.1 ht]
    refine (lay_good A c k t w hr hc hrow (by omega) hk.symm ht hkl hkC).mono ?_
    rintro e w' ⟨v0, rfl, h1, h2⟩
    exact ⟨v0, rfl, h1, h2⟩
theorem lay57 (kk : Nat) (A : Option Addr) (k : Kd2) (l : List Int) (n : Int) (c : Nat) (r1 : List Int) (r2 : Int) (w : World) {ok : Nat → Prop} (hr : Kd.C (Kd.int .u8) w A l.length l) (hc : l.length ≤ c) (h : Ft w ok k) (hf : pannierref04_lay.f kk l n k.1.f0 k.1.f1 = some (r1, r2)) :
    Calls Try.prog 57 #[.slice A l.length c, .int .i64 n, kv k] w fun e w' => ∃ v0 : Value, e = .returned (.tuple #[v0, .int .i64 r2]) ∧ RowAt w' w.heap.size v0 r1 ∧ Below w.heap.size w w' := by
  obtain ⟨⟨b, x⟩, B, d⟩ := k
  exact pannierref04_lay.calls kk A c l n b B d x r1 r2 w hr hc h.now h.1 hf
set_option maxRecDepth 100000 in
set_option maxHeartbeats 40000000 in
/-- The reference's Lay. -/
theorem Lay33 (A : Option Addr) (c : Nat) (l : List Int) (n : Int) (k : Kd2) (w : World) (hr : Kd.C (Kd.int .u8) w A l.length l) (hc : l.length ≤ c) (hb : Bytes l) (hl : l.length ≤ 140737488351232) (n0 : -9223372036854775808 ≤ n) (n1 : n ≤ 9223372036854775807)
    (hkl : k.1.f1.length ≤ k.2.2) (hkC : Kd.C k24 w k.2.1 k.1.f1.length k.1.f1) :
    Calls Try.prog 33 #[.slice A l.length c, .int .i64 n, kv k] w fun e w' => ∃ v0 : Value, e = .returned (.tuple #[v0, .int .i64 (LayS l n k.1).2.1, .int .i64 (LayS l n k.1).2.2]) ∧ RowAt w' w.heap.size v0 (LayS l n k.1).1 ∧ Below w.heap.size w w' := by
  have HR := Lib.hid hr
  have HX := Lib.hid (Math.refright_some (n := n) hb (by omega) n0 n1)
  have HB := Lib.hid hb
  have HL := Lib.hid hl
  have HKL := Lib.hid hkl
  have HKC := Lib.hid hkC
  obtain ⟨x, hx⟩ : ∃ x, Math.rightB l n = x := ⟨_, rfl⟩
  obtain ⟨e1, he1⟩ : ∃ e, (NormS k.1).2 = e := ⟨_, rfl⟩
  have XX := Lib.hid hx
  have E1 := Lib.hid he1
  clear hr hb hl hkl hkC hx he1 n0 n1
  have hu24 := Try.underlying24
  have hu43 := Try.underlying43
  have hu26 := Try.underlying26
  have B0 : Hid (Below w.heap.size w (w.alloc (.cells #[.bool k.1.f0, .slice k.2.1 k.1.f1.length k.2.2] 24))) := Lib.hid ((Below.refl _ _).alloc (Nat.le_refl _) _)
  have A0 := Lib.hid (box24.new w k)
  go_enter Try.func33, Try.ntmps33
  go_wp2_with fail
  refine (pannierref01_Right.calls 10 A c l n _ _ (Kd.C_below HR.out B0.out) hc HX.out).mono ?_
  rintro e w1 ⟨rfl, ⟨nd, rfl⟩⟩
  rw [XX.out]
  have B1 := Lib.hid (pw_below_drewN B0.out nd)
  have A1 : Hid (box24 ((w.alloc (.cells #[.bool k.1.f0, .slice k.2.1 k.1.f1.length k.2.2] 24)).drewN nd) w.heap.size k) := A0
  obtain ⟨w1, hw1⟩ : ∃ w1, (w.alloc (.cells #[.bool k.1.f0, .slice k.2.1 k.1.f1.length k.2.2] 24)).drewN nd = w1 := ⟨_, rfl⟩
  rw [hw1] at B1 A1 ⊢
  clear hw1 A0 B0
  have a0 := A1.out.c0
  have a1 := A1.out.c1
  go_wp2_with fail
  refine (Norm14 k w1 HKL.out (Kd.C_below HKC.out B1.out)).mono ?_
  rintro e w2 ⟨k', rfl, hk', fk, hb2⟩
  rw [E1.out]
  have B2 := Lib.hid (B1.out.trans (hb2.mono B1.out.size))
  have HK' := Lib.hid hk'
  have FK := Lib.hid fk
  clear a0 a1 hk' fk hb2 A1 B1
  have B3 : Hid (Below w.heap.size w (w2.alloc (.cells #[.bool k'.1.f0, .slice k'.2.1 k'.1.f1.length k'.2.2] 24))) := Lib.hid (B2.out.alloc B2.out.size _)
  have A3 := Lib.hid (box24.new w2 k')
  have FK3 := Lib.hid (FK.out.below ((Below.refl _ _).alloc (Nat.le_refl _) (.cells #[.bool k'.1.f0, .slice k'.2.1 k'.1.f1.length k'.2.2] 24)))
  cases x
  · go_wp2_with fail
    go_ret3
    have hL := Math.LayS_bad (l := l) (n := n) (s := k.1) (by rw [XX.out]; rfl)
    rw [hL]
    exact ⟨_, rfl, Kd.R_nil _ _ _ _ _, B3.out⟩
  · by_cases h0 : e1 = 0
    · have e0 : (e1 != 0) = false := bne_eq_false_iff_eq.2 h0
      have hrt : HandF.rightB k.1 = true := by rw [← NormS_zero, E1.out, h0]; rfl
      obtain ⟨t, hk, ht⟩ := (right_iff _).1 hrt
      obtain ⟨r0, _, _⟩ := Math.rightB_iff.1 XX.out
      obtain ⟨m, rfl⟩ := Int.eq_ofNat_of_zero_le r0
      have hrow := Row.of_right HB.out XX.out
      have hcnt := (norm_right ht).2
      have hbl := Math.bitsT_length t.norm
      have hlen := hrow.len
      have hLL := HL.out
      have hS : LayS l (m : Int) k.1 = ((addB (bitsT t.norm) l m).1, (addB (bitsT t.norm) l m).2, 0) := by rw [← hk]; exact Math.LayS_good XX.out ht
      have hkn : k'.1 = t.norm.toS := by rw [HK'.out, ← hk, NormS_right t ht]
      obtain ⟨kk, hkk⟩ := Math.lay_ev t.norm hrow (by omega)
      have LF : Hid (pannierref04_lay.f kk l (m : Int) k'.1.f0 k'.1.f1 = some ((addB (bitsT t.norm) l m).1, (addB (bitsT t.norm) l m).2)) := Lib.hid (by rw [hkn]; exact hkk kk (Nat.le_refl _))
      have HS := Lib.hid hS
      obtain ⟨i0, hi0, hz0, hz1, hz2⟩ := info_parts info5
      have hmk : ∀ W : World, (Instr.makeSlice 43 (.int .i64 0) (.int .i64 (l.length : Int))).run Try.prog W = .ok (.slice (some ⟨W.heap.size, 0, none⟩) 0 l.length) (W.alloc (.cells (madeCells #[.int .u8 0] l.length) 5)) := fun W => by
        have := run_make (P := Try.prog) W 43 5 i0 (.int .u8 0) Try.underlying43 hi0 hz0 .i64 .i64 0 (l.length : Int) (Int.le_refl _) (by omega) (by rw [hz2]; omega) (by omega)
        rw [hz1] at this
        rw [this, show ((l.length : Int)).toNat = l.length by omega]
        simp [Value.cells]
      clear hrt hk ht r0 hrow hcnt hbl hlen hLL hS hkn hkk hi0 hz0 hz1 hz2
      go_wp2_with fail
      obtain ⟨W3, hW3⟩ : ∃ W, w2.alloc (.cells #[.bool k'.1.f0, .slice k'.2.1 k'.1.f1.length k'.2.2] 24) = W := ⟨_, rfl⟩
      rw [hW3] at B3 A3 FK3 ⊢
      have HELD : Hid (∀ W, Below W3.heap.size W3 W → W.cell? ⟨w2.heap.size, 0, none⟩ = some (.bool k'.1.f0) ∧ W.cell? ⟨w2.heap.size, 1, none⟩ = some (.slice k'.2.1 k'.1.f1.length k'.2.2)) :=
        Lib.hid (fun W hW => ⟨(A3.out.below hW).c0, (A3.out.below hW).c1⟩)
      have Y0 : Hid (Below W3.heap.size W3 W3) := Lib.hid (Below.refl _ _)
      have Y1 : Hid (Below W3.heap.size W3 W3.drew) := Lib.hid (Below.refl _ _).drew
      have Y2 : Hid (∀ ob, Below W3.heap.size W3 (W3.drew.alloc ob)) := Lib.hid (fun ob => (Below.refl _ _).drew.alloc (Nat.le_refl _) ob)
      have Y2' : Hid (∀ ob, Below W3.heap.size W3 (W3.alloc ob).drew) := Lib.hid (fun ob => ((Below.refl _ _).alloc (Nat.le_refl _) ob).drew)
      have OWN := Lib.hid (own_made0 W3.drew w.heap.size l.length (by have := B3.out.size; exact this) (by have := HL.out; omega))
      have CR := Lib.hid (Kd.C_below HR.out B3.out)
      go_region_held3 (fun W => W.cell? ⟨w2.heap.size, 0, none⟩ = some (.bool k'.1.f0) ∧ W.cell? ⟨w2.heap.size, 1, none⟩ = some (.slice k'.2.1 k'.1.f1.length k'.2.2))
        (with_reducible first | exact HELD.out _ Y1.out | exact HELD.out _ Y0.out | exact HELD.out _ (Y2.out _) | exact HELD.out _ (Y2'.out _) | exact HELD.out _ Z1.out | exact HELD.out _ Z2.out)
        (first
          | (go_at_call 57; (with_reducible refine (lay57 kk A5 k' l (m : Int) c5 _ _ _ HC5.out hc5 FK5.out LF.out).mono ?_); rintro e w6 ⟨v6, rfl, hr6, hb6⟩; have Z2 := Lib.hid (Z1.out.trans (hb6.mono Z1.out.size)); have R6 := Lib.hid hr6; have SZ5 := Lib.hid Z1.out.size; clear hr6 hb6)
          | (refine Kd.R_append_rows_step (Kd.int .u8) (Rr := (Kd.int .u8).K w) (w0 := w) w.heap.size (by rfl) (.tmp 31) (.tmp 32) 43 5 (.int .u8 0) 1 rfl Try.underlying43 info5 rfl (by decide) (by decide) _ [] l A l.length c (fun _ => True) (fun _ => False) rfl rfl (Kd.R_of_own OWN.out (fun _ _ => trivial)) (Kd.C_below CR.out (Y2.out _)) (fun _ _ h => h) (fun _ h => h.elim) (fun _ _ => trivial) (B3.out.trans ((Y2.out _).mono B3.out.size)) (Nat.le_trans B3.out.size (Y2.out _).size) (by simp only [List.length_nil]; have := HL.out; omega) ?_; intro v5 w5 hr5 hb5 hg5 hat5; rw [List.nil_append] at hr5; obtain ⟨A5, c5, rfl⟩ := Kd.R_slice hr5; obtain ⟨_, hc5, hC5⟩ := Kd.R_reads' hr5; have Z1 := Lib.hid ((Y2.out _).grown hg5 (Y2.out _).size (fun k e => by cases e; exact Nat.le_refl _)); have HC5 := Lib.hid hC5; have FK5 := Lib.hid (FK3.out.below Z1.out); clear hr5 hb5 hg5 hat5 hC5))
      all_goals
        go_wp2_with fail
        go_ret3
        rw [HS.out]
        exact ⟨_, rfl, Kd.R_lower R6.out (Nat.le_trans B3.out.size SZ5.out), B3.out.trans (Z2.out.mono B3.out.size)⟩
    · have e0 : (e1 != 0) = true := bne_iff_ne.2 h0
      go_wp2_with fail
      go_ret3
      have hL := Math.LayS_bad (l := l) (n := n) (s := k.1) (by rw [← NormS_zero, E1.out, XX.out]; simpa using h0)
      rw [hL]
      exact ⟨_, rfl, Kd.R_nil _ _ _ _ _, B3.out⟩
end Go.Proofs.Ytlhaofbncoijfaa.HandF
namespace Go.Proofs.Ytlhaofbncoijfaa.HandF
set_option linter.unusedVariables false
set_option linter.unusedSimpArgs false
open Go.RowKit Go.Proofs.Ytlhaofbncoijfaa.X Go.Proofs.Ytlhaofbncoijfaa.Blocks Go.Proofs.Ytlhaofbncoijfaa.Tree
open Go.Proofs.Ytlhaofbncoijfaa.Math (Bytes bitN readB readBS takeRes)
open Go.Proofs.YtlhaofbncoijfaaW.PrintWords Go.Proofs.YtlhaofbncoijfaaW.PrintLast Go.Proofs.YtlhaofbncoijfaaW.PrintMore
/-- What take hands back. -/
def readBP (m : Nat) (l : List Int) (n p : Nat) : T × Int := match readB m l n p with
  | some x => (x.1, (x.2 : Int))
  | none => (.leaf false, -1)
theorem readBP_none {m : Nat} {l : List Int} {n p : Nat} (h : readB m l n p = none) : readBP m l n p = (.leaf false, -1) := by unfold readBP; rw [h]
theorem readBP_some {m : Nat} {l : List Int} {n p : Nat} {t : T} {q : Nat} (h : readB m l n p = some (t, q)) : readBP m l n p = (t, (q : Int)) := by unfold readBP; rw [h]
theorem readBS_eq (m : Nat) (l : List Int) (n p : Nat) : readBS m l n p = ((readBP m l n p).1.toS.f0, (readBP m l n p).1.toS.f1, (readBP m l n p).2) := by
  cases h : readB m l n p with
  | none => rw [Math.readBS_none h, readBP_none h]; rfl
  | some x => obtain ⟨t, q⟩ := x; rw [Math.readBS_some h, readBP_some h]
theorem take58 (A : Option Addr) (c : Nat) (l : List Int) (n p : Nat) (w : World) (hr : Kd.C (Kd.int .u8) w A l.length l) (hc : l.length ≤ c) (hb : Bytes l) (hl : l.length ≤ 140737488355328) (hrt : Math.rightB l (n : Int) = true) (hp : p ≤ n) :
    Calls Try.prog 58 #[.slice A l.length c, .int .i64 (n : Int), .int .i64 (p : Int), .int .i64 32] w fun e w' => ∃ k : Kd2, e = .returned (.tuple #[kv k, .int .i64 (readBP 33 l n p).2]) ∧ k.1 = (readBP 33 l n p).1.toS ∧ Ft w' (fun j => w.heap.size ≤ j) k ∧ Below w.heap.size w w' := by
  obtain ⟨k0, hk⟩ := Math.idtake_ev 33 hb hl hrt hp (Nat.le_refl _)
  have hf := hk k0 (Nat.le_refl _)
  dsimp only at hf
  rw [readBS_eq, show ((33 : Nat) : Int) - 1 = 32 from rfl] at hf
  refine (id_take.calls k0 A c l (n : Int) (p : Int) 32 _ _ _ w hr hc hf).mono ?_
  rintro e w' ⟨v, rfl, hv, hbl⟩
  have hV := Kd.R_V (base' := w.heap.size) (Kd.R_mono (Kd.R_bound hv) (fun k hk => hk.2.1) : Kd.R k24 24 w' w.heap.size (fun j => w.heap.size ≤ j) v _)
  obtain ⟨A', c', rfl⟩ := Kd.V_slice hV
  exact ⟨(⟨(readBP 33 l n p).1.toS.f0, (readBP 33 l n p).1.toS.f1⟩, A', c'), rfl, S24_eta _, Ft.ofV hV, hbl⟩
theorem tk76 (A : Option Addr) (c : Nat) (l : List Int) (n p : Nat) (w : World) (hr : Kd.C (Kd.int .u8) w A l.length l) (hc : l.length ≤ c) (hb : Bytes l) (hl : l.length ≤ 140737488355328) (hrt : Math.rightB l (n : Int) = true) (hp : p ≤ n) :
    Calls Try.prog 76 #[.slice A l.length c, .int .i64 (n : Int), .int .i64 (p : Int), .int .i64 1] w fun e w' => e = .returned (.tuple #[.int .u64 (if n ≤ p then ((0 : Int), (10 : Int)) else ((bitN l p : Int), 0)).1, .int .i64 (if n ≤ p then ((0 : Int), (10 : Int)) else ((bitN l p : Int), 0)).2]) ∧ Drawn0 w w' := by
  have hn := (Math.rightB_iff.1 hrt).2.1
  obtain ⟨k0, hk⟩ := Math.reftake_res (n := (n : Int)) (p := (p : Int)) (w := 1) hb hl (by omega) (by omega)
  rw [Math.take_one hrt hp] at hk
  exact pannierref01_Take.calls k0 A c l (n : Int) (p : Int) 1 _ _ w hr hc (hk k0 (Nat.le_refl _))
theorem tk76i (A : Option Addr) (c : Nat) (l : List Int) (n p : Nat) (q : Int) (w : World) (hq : q = (p : Int)) (hr : Kd.C (Kd.int .u8) w A l.length l) (hc : l.length ≤ c) (hb : Bytes l) (hl : l.length ≤ 140737488355328) (hrt : Math.rightB l (n : Int) = true) (hp : p ≤ n) :
    Calls Try.prog 76 #[.slice A l.length c, .int .i64 (n : Int), .int .i64 q, .int .i64 1] w fun e w' => e = .returned (.tuple #[.int .u64 (if n ≤ p then ((0 : Int), (10 : Int)) else ((bitN l p : Int), 0)).1, .int .i64 (if n ≤ p then ((0 : Int), (10 : Int)) else ((bitN l p : Int), 0)).2]) ∧ Drawn0 w w' := by
  subst hq
  exact tk76 A c l n p w hr hc hb hl hrt hp
def t59B (w W : World) (c : Array Value) : Prop := Below w.heap.size w W ∧ W.heap[w.heap.size]? = some (.cells c 24 (0, 0))
theorem t59B.step {w W W' : World} {c : Array Value} (h : t59B w W c) (hb : Below W.heap.size W W') : t59B w W' c := ⟨h.1.trans (hb.mono h.1.size), blk_below h.2 hb⟩
theorem t59B.mk0 (w : World) : t59B w (w.alloc (.cells #[.bool false, .slice none 0 0] 24)) #[.bool false, .slice none 0 0] := ⟨(Below.refl _ _).alloc (Nat.le_refl _) _, blk_new _ _⟩
/-- How it is left. -/
theorem t59_out {w W : World} {R : Ending → World → Prop} {tmps : Array Value} (k : Kd2) (r : Int) (h : t59B w W #[.bool false, .slice none 0 0])
    (h2 : tmps.getD 8 undef = .pointer (some ⟨w.heap.size, 0, none⟩)) (h3 : tmps.getD 9 undef = .int .i64 r)
    (hR : ∀ W', Below w.heap.size w W' → (∀ j, j ≠ w.heap.size → W'.heap[j]? = W.heap[j]?) → R (.returned (.tuple #[kv k, .int .i64 r])) W') :
    bodyPost Try.prog Try.f59 R .ret { tmps := tmps, defers := [] } ((W.setCell ⟨w.heap.size, 0, none⟩ (.bool k.1.f0)).setCell ⟨w.heap.size, 1, none⟩ (.slice k.2.1 k.1.f1.length k.2.2)) := by
  have hs := Blocks.set1 (u := .slice k.2.1 k.1.f1.length k.2.2) (set0 (u := .bool k.1.f0) h.2)
  have hr := results_ct (P := Try.prog) (fn := Try.f59) rfl tmps _ w.heap.size 24 _ (0, 0) _ h2 hs Try.underlying24 rfl (by kernel_rfl)
  rw [h3] at hr
  refine bodyPost_ret hr rfl ?_
  refine hR _ ((h.1.setCell (Nat.le_refl _) _).setCell (Nat.le_refl _) _) (fun j hj => ?_)
  rw [set_other (by simpa using hj), set_other (by simpa using hj)]
theorem leaf62t (b : Bool) (w : World) : Calls Try.prog 62 #[.bool b] w fun e w' => e = .returned (.agg #[.bool b, .slice none 0 0]) ∧ Below w.heap.size w w' := by
  have hu24 := Try.underlying24
  have hu22 := Try.underlying22
  have g := blk_new w (.cells #[.bool b, .slice none 0 0] 24)
  go_enter Try.func62, Try.ntmps62
  go_wp2_with fail
  refine bodyPost_ret (results_cell_row rfl _ _ w.heap.size 24 _ (0, 0) _ rfl g hu24 rfl (by kernel_rfl)) rfl ?_
  exact ⟨rfl, (Below.refl _ _).alloc (Nat.le_refl _) _⟩
set_option maxRecDepth 100000 in
set_option maxHeartbeats 40000000 in
theorem t59_zero (A : Option Addr) (c : Nat) (l : List Int) (n p : Nat) (w : World) (hr : Kd.C (Kd.int .u8) w A l.length l) (hc : l.length ≤ c) (hb : Bytes l) (hl : l.length ≤ 140737488355328) (hrt : Math.rightB l (n : Int) = true) (hp : p ≤ n) :
    Calls Try.prog 59 #[.slice A l.length c, .int .i64 (n : Int), .int .i64 (p : Int), .int .i64 (-1)] w fun e w' => ∃ k : Kd2, e = .returned (.tuple #[kv k, .int .i64 (readBP 0 l n p).2]) ∧ k.1 = (readBP 0 l n p).1.toS ∧ Ft w' (fun j => w.heap.size ≤ j) k ∧ Below w.heap.size w w' := by
  have HI := Lib.hid (t59B.mk0 w)
  have HC := Lib.hid hr
  have HBY := Lib.hid hb
  have HLL := Lib.hid hl
  have HRT := Lib.hid hrt
  have HP := Lib.hid hp
  have HN : Hid (n ≤ 8 * 140737488355328) := Lib.hid (by have := (Math.rightB_iff.1 hrt).2.1; omega)
  have hu24 := Try.underlying24
  have hu22 := Try.underlying22
  have hu26 := Try.underlying26
  clear hr hb hl hrt hp
  have HPX : Hid (readBP 0 l n p = (.leaf false, -1)) := Lib.hid rfl
  go_enter Try.func59, Try.ntmps59
  go_wp2_with fail
  refine (tk76 A c l n p _ (Kd.C_below HC.out HI.out.1) hc HBY.out HLL.out HRT.out HP.out).mono ?_
  rintro e w1 ⟨rfl, hd⟩
  have HI1 := Lib.hid (HI.out.step hd.below)
  clear hd
  have o0 := cell0 HI1.out.2
  have o1 := cell1 HI1.out.2
  have of := free2 HI1.out.2
  by_cases h1 : n ≤ p
  · rw [if_pos h1]
    clear h1
    go_wp2_with fail
    refine t59_out (⟨false, []⟩, none, 0) (-1) HI1.out rfl rfl ?_
    intro W' h1 h2
    rw [HPX.out]
    exact ⟨_, rfl, rfl, Ft.leaf _ _ _, h1⟩
  · rw [if_neg h1]
    clear h1
    go_wp2_with fail
    refine t59_out (⟨false, []⟩, none, 0) (-1) HI1.out rfl rfl ?_
    intro W' h1 h2
    rw [HPX.out]
    exact ⟨_, rfl, rfl, Ft.leaf _ _ _, h1⟩
set_option maxRecDepth 100000 in
set_option maxHeartbeats 40000000 in
theorem t59_succ (m : Nat) (hm : m ≤ 32) (A : Option Addr) (c : Nat) (l : List Int) (n p : Nat) (w : World) (hr : Kd.C (Kd.int .u8) w A l.length l) (hc : l.length ≤ c) (hb : Bytes l) (hl : l.length ≤ 140737488355328) (hrt : Math.rightB l (n : Int) = true) (hp : p ≤ n)
    (ih : ∀ (q : Nat) (qq : Int) (w : World), qq = (q : Int) → q ≤ n → Kd.C (Kd.int .u8) w A l.length l → Calls Try.prog 59 #[.slice A l.length c, .int .i64 (n : Int), .int .i64 qq, .int .i64 ((m : Int) - 1)] w fun e w' => ∃ k : Kd2, e = .returned (.tuple #[kv k, .int .i64 (readBP m l n q).2]) ∧ k.1 = (readBP m l n q).1.toS ∧ Ft w' (fun j => w.heap.size ≤ j) k ∧ Below w.heap.size w w') :
    Calls Try.prog 59 #[.slice A l.length c, .int .i64 (n : Int), .int .i64 (p : Int), .int .i64 (m : Int)] w fun e w' => ∃ k : Kd2, e = .returned (.tuple #[kv k, .int .i64 (readBP (m + 1) l n p).2]) ∧ k.1 = (readBP (m + 1) l n p).1.toS ∧ Ft w' (fun j => w.heap.size ≤ j) k ∧ Below w.heap.size w w' := by
  have HI := Lib.hid (t59B.mk0 w)
  have HC := Lib.hid hr
  have HBY := Lib.hid hb
  have HLL := Lib.hid hl
  have HRT := Lib.hid hrt
  have HP := Lib.hid hp
  have HN : Hid (n ≤ 8 * 140737488355328) := Lib.hid (by have := (Math.rightB_iff.1 hrt).2.1; omega)
  have hu24 := Try.underlying24
  have hu22 := Try.underlying22
  have hu26 := Try.underlying26
  clear hr hb hl hrt hp
  have IH := Lib.hid ih
  have HU : Hid (readB (m + 1) l n p = if n ≤ p then none
    else if bitN l p = 0 then (if n ≤ p + 1 then none else some (.leaf (bitN l (p + 1) == 1), p + 2))
    else (match readB m l n (p + 1) with
      | none => none
      | some x => match readB m l n x.2 with
        | none => none
        | some y => some (.node x.1 y.1, y.2))) := Lib.hid rfl
  have hw : IntKind.i64.wrap ((m : Int) - 1) = (m : Int) - 1 := by rw [IntKind.wrap_i64]; omega
  have hlt : decide ((m : Int) < 0) = false := decide_eq_false (by omega)
  have hw1 : IntKind.i64.wrap ((p : Int) + 1) = (p : Int) + 1 := by have := HN.out; have := HP.out; rw [IntKind.wrap_i64]; omega
  have hw2 : IntKind.i64.wrap ((p : Int) + 2) = ((p + 2 : Nat) : Int) := by have := HN.out; have := HP.out; rw [IntKind.wrap_i64]; omega
  clear ih hm
  go_enter Try.func59, Try.ntmps59
  go_wp2_with fail
  refine (tk76 A c l n p _ (Kd.C_below HC.out HI.out.1) hc HBY.out HLL.out HRT.out HP.out).mono ?_
  rintro e w1 ⟨rfl, hd⟩
  have HI1 := Lib.hid (HI.out.step hd.below)
  clear hd
  have o0 := cell0 HI1.out.2
  have o1 := cell1 HI1.out.2
  have of := free2 HI1.out.2
  by_cases h1 : n ≤ p
  · have HPX := Lib.hid (readBP_none (m := m + 1) (by rw [HU.out, if_pos h1]))
    rw [if_pos h1]
    clear h1
    go_wp2_with fail
    refine t59_out (⟨false, []⟩, none, 0) (-1) HI1.out rfl rfl ?_
    intro W' h1 h2
    rw [HPX.out]
    exact ⟨_, rfl, rfl, Ft.leaf _ _ _, h1⟩
  · rw [if_neg h1]
    by_cases h2 : bitN l p = 0
    · have e0 : (((bitN l p : Nat) : Int) == 0) = true := by rw [h2]; rfl
      have HPL : Hid (p + 1 ≤ n) := Lib.hid (by omega)
      have H1 := Lib.hid h1
      have H2 := Lib.hid h2
      clear h1 h2
      go_wp2_with fail
      refine (tk76i A c l n (p + 1) ((p : Int) + 1) _ (by push_cast; rfl) (Kd.C_below HC.out HI1.out.1) hc HBY.out HLL.out HRT.out HPL.out).mono ?_
      rintro e w2 ⟨rfl, hd⟩
      have HI2 := Lib.hid (HI1.out.step hd.below)
      clear hd o0 o1 of
      have o0 := cell0 HI2.out.2
      have o1 := cell1 HI2.out.2
      have of := free2 HI2.out.2
      by_cases h3 : n ≤ p + 1
      · have HPX := Lib.hid (readBP_none (m := m + 1) (by rw [HU.out, if_neg H1.out, if_pos H2.out, if_pos h3]))
        rw [if_pos h3]
        clear h3
        go_wp2_with fail
        refine t59_out (⟨false, []⟩, none, 0) (-1) HI2.out rfl rfl ?_
        intro W' h1 h2
        rw [HPX.out]
        exact ⟨_, rfl, rfl, Ft.leaf _ _ _, h1⟩
      · have HPX := Lib.hid (readBP_some (m := m + 1) (by rw [HU.out, if_neg H1.out, if_pos H2.out, if_neg h3]))
        rw [if_neg h3]
        obtain ⟨b, hbit⟩ : ∃ b, (((bitN l (p + 1) : Nat) : Int) == 1) = b := ⟨_, rfl⟩
        have hb2 : (bitN l (p + 1) == 1) = b := by
          rw [← hbit]
          by_cases e : bitN l (p + 1) = 1
          · rw [e]; rfl
          · rw [beq_eq_false_iff_ne.2 e]; exact (beq_eq_false_iff_ne.2 (by omega)).symm
        have HB2 := Lib.hid hb2
        clear h3 hb2
        go_wp2_with fail
        refine (leaf62t b _).mono ?_
        rintro e w3 ⟨rfl, hb3⟩
        have HI3 := Lib.hid (HI2.out.step hb3)
        clear hb3 o0 o1 of
        have o0 := cell0 HI3.out.2
        have o1 := cell1 HI3.out.2
        have of := free2 HI3.out.2
        go_wp2_with fail
        refine t59_out (⟨b, []⟩, none, 0) _ HI3.out rfl rfl ?_
        intro W' h1 h2
        rw [HPX.out, HB2.out]
        exact ⟨_, rfl, rfl, Ft.leaf _ _ _, h1⟩
    · have e0 : (((bitN l p : Nat) : Int) == 0) = false := beq_eq_false_iff_ne.2 (by omega)
      have HPL : Hid (p + 1 ≤ n) := Lib.hid (by omega)
      have H1 := Lib.hid h1
      have H2 := Lib.hid h2
      clear h1 h2
      go_wp2_with fail
      refine (IH.out (p + 1) ((p : Int) + 1) _ (by push_cast; rfl) HPL.out (Kd.C_below HC.out HI1.out.1)).mono ?_
      rintro e w2 ⟨ka, rfl, hka, fa, hb⟩
      have hI2 := HI1.out.step hb
      have HI3 := Lib.hid (hI2.step ((Below.refl _ _).alloc (Nat.le_refl _) (.cells #[.bool ka.1.f0, .slice ka.2.1 ka.1.f1.length ka.2.2] 24)))
      have FA3 := Lib.hid ((fa.mono (fun j hj => Nat.lt_of_lt_of_le (Array.getElem?_eq_some_iff.1 HI1.out.2).1 hj) : Ft w2 (fun j => w.heap.size < j) ka).below ((Below.refl _ _).alloc (Nat.le_refl _) (.cells #[.bool ka.1.f0, .slice ka.2.1 ka.1.f1.length ka.2.2] 24)))
      have G3 := Lib.hid (blk_new w2 (.cells #[.bool ka.1.f0, .slice ka.2.1 ka.1.f1.length ka.2.2] 24))
      clear hb o0 o1 of hI2 hw1 hw2 fa
      have o0 := cell0 HI3.out.2
      have o1 := cell1 HI3.out.2
      have of := free2 HI3.out.2
      cases hx : readB m l n (p + 1) with
      | none =>
        have HPX := Lib.hid (readBP_none (m := m + 1) (by rw [HU.out, if_neg H1.out, if_neg H2.out, hx]))
        rw [readBP_none hx]
        dsimp only
        clear hka hx
        go_wp2_with fail
        refine t59_out (⟨false, []⟩, none, 0) (-1) HI3.out rfl rfl ?_
        intro W' h1 h2
        rw [HPX.out]
        exact ⟨_, rfl, rfl, Ft.leaf _ _ _, h1⟩
      | some x =>
        obtain ⟨ta, q⟩ := x
        have hle := Math.readB_le m hx
        rw [readBP_some hx] at hka ⊢
        dsimp only at hka ⊢
        have HX := Lib.hid hx
        have HKA := Lib.hid hka
        have HQ : Hid (q ≤ n) := Lib.hid hle.2
        have hq0 : decide ((q : Int) < 0) = false := decide_eq_false (by omega)
        clear hx hka hle
        go_wp2_with fail
        refine (IH.out q (q : Int) _ rfl HQ.out (Kd.C_below HC.out HI3.out.1)).mono ?_
        rintro e w4 ⟨kb, rfl, hkb, fb, hb⟩
        have hI4 := HI3.out.step hb
        have HI5 := Lib.hid (hI4.step ((Below.refl _ _).alloc (Nat.le_refl _) (.cells #[.bool kb.1.f0, .slice kb.2.1 kb.1.f1.length kb.2.2] 24)))
        have GA5 := Lib.hid (blk_alloc (blk_below G3.out hb) (.cells #[.bool kb.1.f0, .slice kb.2.1 kb.1.f1.length kb.2.2] 24))
        have GB5 := Lib.hid (blk_new w4 (.cells #[.bool kb.1.f0, .slice kb.2.1 kb.1.f1.length kb.2.2] 24))
        have FA5 := Lib.hid ((FA3.out.below hb).below ((Below.refl _ _).alloc (Nat.le_refl _) (.cells #[.bool kb.1.f0, .slice kb.2.1 kb.1.f1.length kb.2.2] 24)))
        have FB5 := Lib.hid ((fb.mono (fun j hj => Nat.lt_of_lt_of_le (Array.getElem?_eq_some_iff.1 HI3.out.2).1 hj) : Ft w4 (fun j => w.heap.size < j) kb).below ((Below.refl _ _).alloc (Nat.le_refl _) (.cells #[.bool kb.1.f0, .slice kb.2.1 kb.1.f1.length kb.2.2] 24)))
        have LT4 := Lib.hid (Array.getElem?_eq_some_iff.1 hI4.2).1
        have SZ5 : Hid ((w4.alloc (.cells #[.bool kb.1.f0, .slice kb.2.1 kb.1.f1.length kb.2.2] 24)).heap.size = w4.heap.size + 1) := Lib.hid (World.size_alloc _ _)
        clear hb o0 o1 of hI4 fb
        have o0 := cell0 HI5.out.2
        have o1 := cell1 HI5.out.2
        have of := free2 HI5.out.2
        cases hy : readB m l n q with
        | none =>
          have HPX := Lib.hid (readBP_none (m := m + 1) (by rw [HU.out, if_neg H1.out, if_neg H2.out, HX.out]; dsimp only; rw [hy]))
          rw [readBP_none hy]
          dsimp only
          clear hkb hy
          go_wp2_with fail
          refine t59_out (⟨false, []⟩, none, 0) (-1) HI5.out rfl rfl ?_
          intro W' h1 h2
          rw [HPX.out]
          exact ⟨_, rfl, rfl, Ft.leaf _ _ _, h1⟩
        | some y =>
          obtain ⟨tb, r⟩ := y
          have HPX := Lib.hid (readBP_some (m := m + 1) (t := .node ta tb) (q := r) (by rw [HU.out, if_neg H1.out, if_neg H2.out, HX.out]; dsimp only; rw [hy]))
          rw [readBP_some hy] at hkb ⊢
          dsimp only at hkb ⊢
          have HKB := Lib.hid hkb
          have hr0 : decide ((r : Int) < 0) = false := decide_eq_false (by omega)
          clear hy hkb o0 o1 of
          have a0 := cell0 GA5.out
          have a1 := cell1 GA5.out
          have b0 := cell0 GB5.out
          have b1 := cell1 GB5.out
          have o0 := (fun ob => cell0 (HI5.out.step ((Below.refl _ _).alloc (Nat.le_refl _) ob)).2)
          have o1 := (fun ob => cell1 (HI5.out.step ((Below.refl _ _).alloc (Nat.le_refl _) ob)).2)
          have of := (fun ob => free2 (HI5.out.step ((Below.refl _ _).alloc (Nat.le_refl _) ob)).2)
          go_wp2_with fail
          refine t59_out (⟨false, [ka.1, kb.1]⟩, some ⟨w4.heap.size + 1, 0, none⟩, 2) _ (HI5.out.step ((Below.refl _ _).alloc (Nat.le_refl _) (.cells #[.bool ka.1.f0, .slice ka.2.1 ka.1.f1.length ka.2.2, .bool kb.1.f0, .slice kb.2.1 kb.1.f1.length kb.2.2] 24))) rfl rfl ?_
          intro W' h1 h2
          have hlw : w.heap.size < w4.heap.size + 1 := by have := LT4.out; omega
          have hrow : W'.heap[w4.heap.size + 1]? = some (.cells #[.bool ka.1.f0, .slice ka.2.1 ka.1.f1.length ka.2.2, .bool kb.1.f0, .slice kb.2.1 kb.1.f1.length kb.2.2] 24 (0, 0)) := (h2 _ (Nat.ne_of_gt hlw)).trans (by rw [← SZ5.out]; exact blk_new _ _)
          rw [HPX.out]
          refine ⟨_, rfl, by rw [HKA.out, HKB.out]; rfl, ?_, h1⟩
          have ma := ((FA5.out.below ((Below.refl _ _).alloc (Nat.le_refl _) (.cells #[.bool ka.1.f0, .slice ka.2.1 ka.1.f1.length ka.2.2, .bool kb.1.f0, .slice kb.2.1 kb.1.f1.length kb.2.2] 24))).move (W' := W') (fun j hj => h2 j (Nat.ne_of_gt hj))).mono (fun j (hj : w.heap.size < j) => Nat.le_of_lt hj)
          have mb := ((FB5.out.below ((Below.refl _ _).alloc (Nat.le_refl _) (.cells #[.bool ka.1.f0, .slice ka.2.1 ka.1.f1.length ka.2.2, .bool kb.1.f0, .slice kb.2.1 kb.1.f1.length kb.2.2] 24))).move (W' := W') (fun j hj => h2 j (Nat.ne_of_gt hj))).mono (fun j (hj : w.heap.size < j) => Nat.le_of_lt hj)
          exact Ft.two ma mb (Nat.le_of_lt hlw) false hrow
theorem take59 : ∀ (m : Nat) (d : Int) (A : Option Addr) (c : Nat) (l : List Int) (n p : Nat) (w : World), m ≤ 33 → d = (m : Int) - 1 → Kd.C (Kd.int .u8) w A l.length l → l.length ≤ c → Bytes l → l.length ≤ 140737488355328 → Math.rightB l (n : Int) = true → p ≤ n →
    Calls Try.prog 59 #[.slice A l.length c, .int .i64 (n : Int), .int .i64 (p : Int), .int .i64 d] w fun e w' => ∃ k : Kd2, e = .returned (.tuple #[kv k, .int .i64 (readBP m l n p).2]) ∧ k.1 = (readBP m l n p).1.toS ∧ Ft w' (fun j => w.heap.size ≤ j) k ∧ Below w.heap.size w w'
  | 0, d, A, c, l, n, p, w, hm, hd, hr, hc, hb, hl, hrt, hp => by
    subst hd
    exact t59_zero A c l n p w hr hc hb hl hrt hp
  | m + 1, d, A, c, l, n, p, w, hm, hd, hr, hc, hb, hl, hrt, hp => by
    obtain rfl : d = (m : Int) := by omega
    refine t59_succ m (by omega) A c l n p w hr hc hb hl hrt hp (fun q qq w hqq hq hC => ?_)
    subst hqq
    exact take59 m _ A c l n q w (by omega) rfl hC hc hb hl hrt hq
end Go.Proofs.Ytlhaofbncoijfaa.HandF
namespace Go.Proofs.Ytlhaofbncoijfaa.HandF
set_option linter.unusedVariables false
set_option linter.unusedSimpArgs false
open Go.RowKit Go.Proofs.Ytlhaofbncoijfaa.X Go.Proofs.Ytlhaofbncoijfaa.Tree Go.Proofs.Ytlhaofbncoijfaa.Blocks
open Go.Proofs.YtlhaofbncoijfaaW.PrintWords Go.Proofs.YtlhaofbncoijfaaW.PrintLast Go.Proofs.YtlhaofbncoijfaaW.PrintMore

/-- What slices.EqualFunc tells of two trees' kids. -/
def kidsEq : T → T → Bool
  | .leaf _, .leaf _ => true
  | .node a b, .node c d => T.eqb a c && T.eqb b d
  | _, _ => false
set_option maxRecDepth 100000 in
set_option maxHeartbeats 40000000 in
theorem eqf_empty (A B : Option Addr) (c d : Nat) (w : World) :
    Calls Try.prog 68 #[.slice A 0 c, .slice B 0 d, .func (.func 46) #[] #[]] w fun e w' => e = .returned (.bool true) ∧ Below w.heap.size w w' := by
  go_enter Try.func68, Try.ntmps68
  go_wp2_with fail
  refine wp_loop_rounds 1 ?_
  rw [rounds_succ]
  go_wp2_with fail
  go_ret
  exact ⟨rfl, Below.refl _ _⟩
set_option maxRecDepth 100000 in
set_option maxHeartbeats 40000000 in
theorem eqf_differ (A B : Option Addr) (m n c d : Nat) (h : m ≠ n) (w : World) :
    Calls Try.prog 68 #[.slice A m c, .slice B n d, .func (.func 46) #[] #[]] w fun e w' => e = .returned (.bool false) ∧ Below w.heap.size w w' := by
  have e1 : ((m : Int) != (n : Int)) = true := bne_iff_ne.2 (by omega)
  have e2 : (m != n) = true := bne_iff_ne.2 h
  go_enter Try.func68, Try.ntmps68
  go_wp2_with fail
  go_ret
  exact ⟨rfl, Below.refl _ _⟩
set_option maxRecDepth 100000 in
set_option maxHeartbeats 40000000 in
theorem eqf_two (a b a' b' : T)
    (ih1 : ∀ (k m : Kd2) (w : World) (ok : Nat → Prop), k.1 = a.toS → m.1 = a'.toS → Ft w ok k → Ft w ok m → Calls Try.prog 46 #[kv k, kv m] w fun e w' => e = .returned (.bool (T.eqb a a')) ∧ Below w.heap.size w w')
    (ih2 : ∀ (k m : Kd2) (w : World) (ok : Nat → Prop), k.1 = b.toS → m.1 = b'.toS → Ft w ok k → Ft w ok m → Calls Try.prog 46 #[kv k, kv m] w fun e w' => e = .returned (.bool (T.eqb b b')) ∧ Below w.heap.size w w')
    (k m : Kd2) (w : World) (ok : Nat → Prop) (hk : k.1 = (T.node a b).toS) (hm : m.1 = (T.node a' b').toS) (fk : Ft w ok k) (fm : Ft w ok m) :
    Calls Try.prog 68 #[.slice k.2.1 2 k.2.2, .slice m.2.1 2 m.2.2, .func (.func 46) #[] #[]] w fun e w' => e = .returned (.bool (T.eqb a a' && T.eqb b b')) ∧ Below w.heap.size w w' := by
  obtain ⟨ad, p0, p1, hA, hp0, hp1, fp0, fp1, x0, x1, x2, x3⟩ := fk.kids hk
  obtain ⟨bd, q0, q1, hB, hq0, hq1, fq0, fq1, y0, y1, y2, y3⟩ := fm.kids hm
  rw [hA, hB]
  have IH1 := Lib.hid ih1
  have IH2 := Lib.hid ih2
  have HP0 := Lib.hid hp0
  have HP1 := Lib.hid hp1
  have HQ0 := Lib.hid hq0
  have HQ1 := Lib.hid hq1
  have FP0 := Lib.hid fp0
  have FP1 := Lib.hid fp1
  have FQ0 := Lib.hid fq0
  have FQ1 := Lib.hid fq1
  have X2 := Lib.hid x2
  have X3 := Lib.hid x3
  have Y2 := Lib.hid y2
  have Y3 := Lib.hid y3
  have hB1 : Below w.heap.size w (w.alloc (.cells #[.bool p0.1.f0, .slice p0.2.1 p0.1.f1.length p0.2.2] 24)) := (Below.refl _ _).alloc (Nat.le_refl _) _
  have y0' := kcell hB1 y0
  have y1' := kcell hB1 y1
  have g1 := blk_new w (.cells #[.bool p0.1.f0, .slice p0.2.1 p0.1.f1.length p0.2.2] 24)
  have g1' := blk_alloc g1 (.cells #[.bool q0.1.f0, .slice q0.2.1 q0.1.f1.length q0.2.2] 24)
  have v0 := cell0 g1'
  have v1 := cell1 g1'
  have HB2 := Lib.hid (hB1.alloc (by rw [World.size_alloc]; omega) (.cells #[.bool q0.1.f0, .slice q0.2.1 q0.1.f1.length q0.2.2] 24))
  clear ih1 ih2 hk hm fk fm hA hB hp0 hp1 hq0 hq1 fp0 fp1 fq0 fq1 x2 x3 y2 y3 hB1 g1 g1'
  have hu24 := Try.underlying24
  have hu22 := Try.underlying22
  go_enter Try.func68, Try.ntmps68
  go_wp2_with fail
  refine wp_loop_rounds 3 ?_
  rw [rounds_succ]
  go_wp2_with fail
  refine (IH1.out p0 q0 _ _ HP0.out HQ0.out (FP0.out.below HB2.out) (FQ0.out.below HB2.out)).mono ?_
  rintro e w3 ⟨rfl, hb3⟩
  have HB3 := Lib.hid (HB2.out.trans (hb3.mono HB2.out.size))
  clear hb3 y0' y1' v0 v1 x0 x1 y0 y1
  cases he : T.eqb a a'
  · go_wp2_with fail
    go_ret
    exact ⟨by rw [he]; rfl, HB3.out⟩
  · have z2 := kcell HB3.out X2.out
    have z3 := kcell HB3.out X3.out
    have hB4 : Below w3.heap.size w3 (w3.alloc (.cells #[.bool p1.1.f0, .slice p1.2.1 p1.1.f1.length p1.2.2] 24)) := (Below.refl _ _).alloc (Nat.le_refl _) _
    have u2 := kcell (HB3.out.trans (hB4.mono HB3.out.size)) Y2.out
    have u3 := kcell (HB3.out.trans (hB4.mono HB3.out.size)) Y3.out
    have g1 := blk_new w3 (.cells #[.bool p1.1.f0, .slice p1.2.1 p1.1.f1.length p1.2.2] 24)
    have g1' := blk_alloc g1 (.cells #[.bool q1.1.f0, .slice q1.2.1 q1.1.f1.length q1.2.2] 24)
    have v0 := cell0 g1'
    have v1 := cell1 g1'
    have HB5 := Lib.hid (hB4.alloc (by rw [World.size_alloc]; omega) (.cells #[.bool q1.1.f0, .slice q1.2.1 q1.1.f1.length q1.2.2] 24))
    clear hB4 g1 g1'
    go_wp2_with fail
    rw [rounds_succ]
    go_wp2_with fail
    refine (IH2.out p1 q1 _ _ HP1.out HQ1.out (FP1.out.below (HB3.out.trans (HB5.out.mono HB3.out.size))) (FQ1.out.below (HB3.out.trans (HB5.out.mono HB3.out.size)))).mono ?_
    rintro e w6 ⟨rfl, hb6⟩
    have HB6 := Lib.hid ((HB3.out.trans (HB5.out.mono HB3.out.size)).trans (hb6.mono (HB3.out.trans (HB5.out.mono HB3.out.size)).size))
    clear hb6 z2 z3 u2 u3 v0 v1
    cases he2 : T.eqb b b'
    · go_wp2_with fail
      go_ret
      exact ⟨by rw [he, he2]; rfl, HB6.out⟩
    · go_wp2_with fail
      rw [rounds_succ]
      go_wp2_with fail
      go_ret
      exact ⟨by rw [he, he2]; rfl, HB6.out⟩
set_option maxRecDepth 100000 in
set_option maxHeartbeats 40000000 in
theorem equal_step (a b : T) (k m : Kd2) (w : World) (ok : Nat → Prop) (hk : k.1 = a.toS) (hm : m.1 = b.toS) (fk : Ft w ok k) (fm : Ft w ok m)
    (h68 : ∀ W, Below w.heap.size w W → Calls Try.prog 68 #[.slice k.2.1 k.1.f1.length k.2.2, .slice m.2.1 m.1.f1.length m.2.2, .func (.func 46) #[] #[]] W fun e w' => e = .returned (.bool (kidsEq a b)) ∧ Below W.heap.size W w') :
    Calls Try.prog 46 #[kv k, kv m] w fun e w' => e = .returned (.bool (T.eqb a b)) ∧ Below w.heap.size w w' := by
  have hu24 := Try.underlying24
  have hu22 := Try.underlying22
  have HK := Lib.hid hk
  have HM := Lib.hid hm
  have H := Lib.hid h68
  have hb2 : Below w.heap.size w ((w.alloc (.cells #[.bool k.1.f0, .slice k.2.1 k.1.f1.length k.2.2] 24)).alloc (.cells #[.bool m.1.f0, .slice m.2.1 m.1.f1.length m.2.2] 24)) := ((Below.refl _ _).alloc (Nat.le_refl _) _).alloc (by simp) _
  have HB2 := Lib.hid hb2
  clear hk hm h68 fk fm hb2
  cases hf : (k.1.f0 == m.1.f0)
  · have he : T.eqb a b = false := by
      cases h : T.eqb a b
      · rfl
      · have := T.eqb_iff.1 h
        rw [HK.out, HM.out, this] at hf
        simp at hf
    rw [he]
    go_enter Try.func46, Try.ntmps46
    go_wp2_with fail
    go_ret
    exact ⟨rfl, HB2.out⟩
  · have he : T.eqb a b = kidsEq a b := by
      rw [HK.out, HM.out] at hf
      cases a with
      | leaf x => cases b with
        | leaf y => simpa [T.eqb, kidsEq, T.toS] using hf
        | node c d => rfl
      | node c d => cases b <;> rfl
    rw [he]
    go_enter Try.func46, Try.ntmps46
    go_wp2_with fail
    refine (H.out _ HB2.out).mono ?_
    rintro e w3 ⟨rfl, hb3⟩
    have HB3 := Lib.hid (HB2.out.trans (hb3.mono HB2.out.size))
    clear hb3
    go_wp2_with fail
    go_ret
    exact ⟨rfl, HB3.out⟩
theorem equal_calls : ∀ (a b : T) (k m : Kd2) (w : World) (ok : Nat → Prop), k.1 = a.toS → m.1 = b.toS → Ft w ok k → Ft w ok m →
    Calls Try.prog 46 #[kv k, kv m] w fun e w' => e = .returned (.bool (T.eqb a b)) ∧ Below w.heap.size w w'
  | .leaf x, .leaf y, k, m, w, ok, hk, hm, fk, fm => equal_step _ _ k m w ok hk hm fk fm (fun W _ => by rw [hk, hm]; exact eqf_empty _ _ _ _ W)
  | .leaf x, .node c d, k, m, w, ok, hk, hm, fk, fm => equal_step _ _ k m w ok hk hm fk fm (fun W _ => by rw [hk, hm]; exact eqf_differ _ _ _ _ _ _ (by simp [T.toS]) W)
  | .node a b, .leaf y, k, m, w, ok, hk, hm, fk, fm => equal_step _ _ k m w ok hk hm fk fm (fun W _ => by rw [hk, hm]; exact eqf_differ _ _ _ _ _ _ (by simp [T.toS]) W)
  | .node a b, .node c d, k, m, w, ok, hk, hm, fk, fm => equal_step _ _ k m w ok hk hm fk fm (fun W hW => by
      have := eqf_two a b c d (equal_calls a c) (equal_calls b d) k m W ok hk hm (fk.below hW) (fm.below hW)
      rw [hk, hm]
      exact this)

def id_equal.f (a0_0 : Bool) (l0_1 : List S24) (a1_0 : Bool) (l1_1 : List S24) : Option Bool :=
  match T.ofS ⟨a0_0, l0_1⟩, T.ofS ⟨a1_0, l1_1⟩ with
  | some a, some b => some (T.eqb a b)
  | _, _ => none
theorem id_equal.calls (a0_0 : Bool) (A0_1 : Option Addr) (c0_1 : Nat) (l0_1 : List S24) (a1_0 : Bool) (A1_1 : Option Addr) (c1_1 : Nat) (l1_1 : List S24) (r : Bool) (w : World) (hr0_1 : Kd.C k24 w A0_1 l0_1.length l0_1) (hc0_1 : l0_1.length ≤ c0_1) (hr1_1 : Kd.C k24 w A1_1 l1_1.length l1_1) (hc1_1 : l1_1.length ≤ c1_1) (h : id_equal.f a0_0 l0_1 a1_0 l1_1 = some r) :
    Calls Try.prog 46 #[.agg #[.bool a0_0, .slice A0_1 l0_1.length c0_1], .agg #[.bool a1_0, .slice A1_1 l1_1.length c1_1]] w fun e w' => e = .returned (.bool r) ∧ Below w.heap.size w w' := by
  unfold id_equal.f at h
  cases ha : T.ofS ⟨a0_0, l0_1⟩ with
  | none => rw [ha] at h; cases h
  | some a =>
    cases hb : T.ofS ⟨a1_0, l1_1⟩ with
    | none => rw [ha, hb] at h; cases h
    | some b =>
      rw [ha, hb] at h
      obtain rfl : T.eqb a b = r := by simpa using h
      exact equal_calls a b (⟨a0_0, l0_1⟩, A0_1, c0_1) (⟨a1_0, l1_1⟩, A1_1, c1_1) w _ (T.ofS_eq.1 ha).symm (T.ofS_eq.1 hb).symm (Ft.all hc0_1 hr0_1) (Ft.all hc1_1 hr1_1)
end Go.Proofs.Ytlhaofbncoijfaa.HandF
namespace Go.Proofs.Ytlhaofbncoijfaa.HandF
set_option linter.unusedVariables false
set_option linter.unusedSimpArgs false
open Go.RowKit Go.Proofs.Ytlhaofbncoijfaa.X Go.Proofs.Ytlhaofbncoijfaa.Blocks Go.Proofs.Ytlhaofbncoijfaa.Tree
open Go.Proofs.Ytlhaofbncoijfaa.Math (Bytes bitN readB takeRes)
open Go.Proofs.YtlhaofbncoijfaaW.PrintWords Go.Proofs.YtlhaofbncoijfaaW.PrintLast Go.Proofs.YtlhaofbncoijfaaW.PrintMore
/-- What Take hands back. -/
def TakeT (l : List Int) (n p : Int) : T × Int × Int :=
  if Math.rightB l n = true ∧ 0 ≤ p ∧ p ≤ n then (match readB 33 l n.toNat p.toNat with
    | some x => if x.1.right ∧ T.eqb x.1 x.1.norm = true then (x.1, (x.2 : Int), 0) else (.leaf false, 0, 40)
    | none => (.leaf false, 0, 40))
  else (.leaf false, 0, 2)
theorem TakeT_bad {l : List Int} {n p : Int} (h : ¬ (Math.rightB l n = true ∧ 0 ≤ p ∧ p ≤ n)) : TakeT l n p = (.leaf false, 0, 2) := by unfold TakeT; rw [if_neg h]
theorem TakeT_none {l : List Int} {n p : Nat} (h : Math.rightB l (n : Int) = true) (hp : p ≤ n) (hx : readB 33 l n p = none) : TakeT l (n : Int) (p : Int) = (.leaf false, 0, 40) := by
  unfold TakeT; rw [if_pos ⟨h, by omega, by omega⟩, Int.toNat_natCast, Int.toNat_natCast, hx]
theorem TakeT_some {l : List Int} {n p q : Nat} {t : T} (h : Math.rightB l (n : Int) = true) (hp : p ≤ n) (hx : readB 33 l n p = some (t, q)) : TakeT l (n : Int) (p : Int) = if t.right ∧ T.eqb t t.norm = true then (t, (q : Int), 0) else (.leaf false, 0, 40) := by
  unfold TakeT; rw [if_pos ⟨h, by omega, by omega⟩, Int.toNat_natCast, Int.toNat_natCast, hx]
theorem Right17q (k : Kd2) (t : T) (w : World) (hk : k.1 = t.toS) (ok : Nat → Prop) (h : Ft w ok k) :
    Calls Try.prog 17 #[.agg #[.bool k.1.f0, .slice k.2.1 k.1.f1.length k.2.2]] w fun e w' => e = .returned (.bool (decide t.right)) ∧ Below w.heap.size w w' := by
  have := right_calls k w ⟨h.1, h.now⟩
  rwa [hk, right_T, ← hk] at this
theorem Ft.len1 {W : World} {ok : Nat → Prop} {k : Kd2} (h : Ft W ok k) : k.1.f1.length ≤ k.2.2 := h.1
theorem cellsBox {W : World} {g : Nat} {k : Kd2} (h : box24 W g k) : W.cell? ⟨g, 0, none⟩ = some (.bool k.1.f0) ∧ W.cell? ⟨g, 1, none⟩ = some (.slice k.2.1 k.1.f1.length k.2.2) := ⟨h.c0, h.c1⟩
/-- How it is left. -/
theorem t34_out {w W : World} {R : Ending → World → Prop} {tmps : Array Value} (k : Kd2) (r e : Int) (h : t59B w W #[.bool false, .slice none 0 0])
    (h2 : tmps.getD 6 undef = .pointer (some ⟨w.heap.size, 0, none⟩)) (h3 : tmps.getD 7 undef = .int .i64 r) (h4 : tmps.getD 8 undef = .int .i64 e)
    (hR : ∀ W', Below w.heap.size w W' → (∀ j, j ≠ w.heap.size → W'.heap[j]? = W.heap[j]?) → R (.returned (.tuple #[kv k, .int .i64 r, .int .i64 e])) W') :
    bodyPost Try.prog Try.f34 R .ret { tmps := tmps, defers := [] } ((W.setCell ⟨w.heap.size, 0, none⟩ (.bool k.1.f0)).setCell ⟨w.heap.size, 1, none⟩ (.slice k.2.1 k.1.f1.length k.2.2)) := by
  have hs := Blocks.set1 (u := .slice k.2.1 k.1.f1.length k.2.2) (set0 (u := .bool k.1.f0) h.2)
  have hr := results_ctt (P := Try.prog) (fn := Try.f34) rfl tmps _ w.heap.size 24 _ (0, 0) _ h2 hs Try.underlying24 rfl (by kernel_rfl)
  rw [h3, h4] at hr
  refine bodyPost_ret hr rfl ?_
  refine hR _ ((h.1.setCell (Nat.le_refl _) _).setCell (Nat.le_refl _) _) (fun j hj => ?_)
  rw [set_other (by simpa using hj), set_other (by simpa using hj)]
/-- How it is left. -/
theorem t35_out {w W : World} {R : Ending → World → Prop} {tmps : Array Value} (k : Kd2) (r e : Int) (h : t59B w W #[.bool false, .slice none 0 0])
    (h2 : tmps.getD 6 undef = .pointer (some ⟨w.heap.size, 0, none⟩)) (h3 : tmps.getD 7 undef = .int .i64 r) (h4 : tmps.getD 8 undef = .int .i64 e)
    (hR : ∀ W', Below w.heap.size w W' → (∀ j, j ≠ w.heap.size → W'.heap[j]? = W.heap[j]?) → R (.returned (.tuple #[kv k, .int .i64 r, .int .i64 e])) W') :
    bodyPost Try.prog Try.f35 R .ret { tmps := tmps, defers := [] } ((W.setCell ⟨w.heap.size, 0, none⟩ (.bool k.1.f0)).setCell ⟨w.heap.size, 1, none⟩ (.slice k.2.1 k.1.f1.length k.2.2)) := by
  have hs := Blocks.set1 (u := .slice k.2.1 k.1.f1.length k.2.2) (set0 (u := .bool k.1.f0) h.2)
  have hr := results_ctt (P := Try.prog) (fn := Try.f35) rfl tmps _ w.heap.size 24 _ (0, 0) _ h2 hs Try.underlying24 rfl (by kernel_rfl)
  rw [h3, h4] at hr
  refine bodyPost_ret hr rfl ?_
  refine hR _ ((h.1.setCell (Nat.le_refl _) _).setCell (Nat.le_refl _) _) (fun j hj => ?_)
  rw [set_other (by simpa using hj), set_other (by simpa using hj)]
/-- How it is left, behind a draw. -/
theorem t34_outd {w W : World} {R : Ending → World → Prop} {tmps : Array Value} (k : Kd2) (r e : Int) (h : t59B w W #[.bool false, .slice none 0 0])
    (h2 : tmps.getD 6 undef = .pointer (some ⟨w.heap.size, 0, none⟩)) (h3 : tmps.getD 7 undef = .int .i64 r) (h4 : tmps.getD 8 undef = .int .i64 e)
    (hR : ∀ W', Below w.heap.size w W' → (∀ j, j ≠ w.heap.size → W'.heap[j]? = W.heap[j]?) → R (.returned (.tuple #[kv k, .int .i64 r, .int .i64 e])) W') :
    bodyPost Try.prog Try.f34 R .ret { tmps := tmps, defers := [] } (((W.setCell ⟨w.heap.size, 0, none⟩ (.bool k.1.f0)).setCell ⟨w.heap.size, 1, none⟩ (.slice k.2.1 k.1.f1.length k.2.2)).drew) := by
  have hs : (((W.setCell ⟨w.heap.size, 0, none⟩ (.bool k.1.f0)).setCell ⟨w.heap.size, 1, none⟩ (.slice k.2.1 k.1.f1.length k.2.2)).drew).heap[w.heap.size]? = _ := Blocks.set1 (u := .slice k.2.1 k.1.f1.length k.2.2) (set0 (u := .bool k.1.f0) h.2)
  have hr := results_ctt (P := Try.prog) (fn := Try.f34) rfl tmps _ w.heap.size 24 _ (0, 0) _ h2 hs Try.underlying24 rfl (by kernel_rfl)
  rw [h3, h4] at hr
  refine bodyPost_ret hr rfl ?_
  refine hR _ ((h.1.setCell (Nat.le_refl _) _).setCell (Nat.le_refl _) _).drew (fun j hj => ?_)
  show ((W.setCell ⟨w.heap.size, 0, none⟩ (.bool k.1.f0)).setCell ⟨w.heap.size, 1, none⟩ (.slice k.2.1 k.1.f1.length k.2.2)).heap[j]? = _
  rw [set_other (by simpa using hj), set_other (by simpa using hj)]
set_option maxRecDepth 100000 in
set_option maxHeartbeats 40000000 in
theorem t34_bad (A : Option Addr) (c : Nat) (l : List Int) (n p : Int) (w : World) (x : Bool) (hr : Kd.C (Kd.int .u8) w A l.length l) (hc : l.length ≤ c) (hx : bits_Right.f l n = some x) (hxp : ¬ (x = true ∧ 0 ≤ p ∧ p ≤ n)) :
    Calls Try.prog 34 #[.slice A l.length c, .int .i64 n, .int .i64 p] w fun e w' => e = .returned (.tuple #[kv (⟨false, []⟩, none, 0), .int .i64 0, .int .i64 2]) ∧ Below w.heap.size w w' := by
  have HI := Lib.hid (t59B.mk0 w)
  have HC := Lib.hid hr
  have HX := Lib.hid hx
  have hu24 := Try.underlying24
  have hu22 := Try.underlying22
  have hu26 := Try.underlying26
  clear hr hx
  have fin : ∀ (x' a b : Bool), x = x' → decide (p < 0) = a → decide (n < p) = b → (x' = true → a = false → b = false → False) := by
    rintro x' a b rfl ha hb rfl rfl rfl
    exact hxp ⟨rfl, by have := of_decide_eq_false ha; omega, by have := of_decide_eq_false hb; omega⟩
  obtain ⟨a, ha⟩ : ∃ a, decide (p < 0) = a := ⟨_, rfl⟩
  obtain ⟨b, hb⟩ : ∃ b, decide (n < p) = b := ⟨_, rfl⟩
  have HF := Lib.hid (fin x a b rfl ha hb)
  clear hxp fin
  go_enter Try.func34, Try.ntmps34
  go_wp2_with fail
  refine (bits_Right.calls A c l n x _ (Kd.C_below HC.out HI.out.1) hc HX.out).mono ?_
  rintro e w1 ⟨rfl, hd⟩
  have HI1 := Lib.hid (HI.out.step hd.below)
  clear hd
  have o0 := cell0 HI1.out.2
  have o1 := cell1 HI1.out.2
  have of := free2 HI1.out.2
  cases x
  · go_wp2_with fail
    refine t34_out (⟨false, []⟩, none, 0) 0 2 HI1.out rfl rfl rfl ?_
    intro W' h1 h2
    exact ⟨rfl, h1⟩
  · cases a
    · cases b
      · exact (HF.out rfl rfl rfl).elim
      · go_wp2_with fail
        refine t34_out (⟨false, []⟩, none, 0) 0 2 HI1.out rfl rfl rfl ?_
        intro W' h1 h2
        exact ⟨rfl, h1⟩
    · go_wp2_with fail
      refine t34_out (⟨false, []⟩, none, 0) 0 2 HI1.out rfl rfl rfl ?_
      intro W' h1 h2
      exact ⟨rfl, h1⟩
set_option maxRecDepth 100000 in
set_option maxHeartbeats 40000000 in
theorem t35_bad (A : Option Addr) (c : Nat) (l : List Int) (n p : Int) (w : World) (x : Bool) (hr : Kd.C (Kd.int .u8) w A l.length l) (hc : l.length ≤ c) (hx : pannierref01_Right.f 10 l n = some x) (hxp : ¬ (x = true ∧ 0 ≤ p ∧ p ≤ n)) :
    Calls Try.prog 35 #[.slice A l.length c, .int .i64 n, .int .i64 p] w fun e w' => e = .returned (.tuple #[kv (⟨false, []⟩, none, 0), .int .i64 0, .int .i64 2]) ∧ Below w.heap.size w w' := by
  have HI := Lib.hid (t59B.mk0 w)
  have HC := Lib.hid hr
  have HX := Lib.hid hx
  have hu24 := Try.underlying24
  have hu22 := Try.underlying22
  have hu26 := Try.underlying26
  clear hr hx
  have fin : ∀ (x' a b : Bool), x = x' → decide (p < 0) = a → decide (n < p) = b → (x' = true → a = false → b = false → False) := by
    rintro x' a b rfl ha hb rfl rfl rfl
    exact hxp ⟨rfl, by have := of_decide_eq_false ha; omega, by have := of_decide_eq_false hb; omega⟩
  obtain ⟨a, ha⟩ : ∃ a, decide (p < 0) = a := ⟨_, rfl⟩
  obtain ⟨b, hb⟩ : ∃ b, decide (n < p) = b := ⟨_, rfl⟩
  have HF := Lib.hid (fin x a b rfl ha hb)
  clear hxp fin
  go_enter Try.func35, Try.ntmps35
  go_wp2_with fail
  refine (pannierref01_Right.calls 10 A c l n x _ (Kd.C_below HC.out HI.out.1) hc HX.out).mono ?_
  rintro e w1 ⟨rfl, hd⟩
  have HI1 := Lib.hid (HI.out.step hd.below)
  clear hd
  have o0 := cell0 HI1.out.2
  have o1 := cell1 HI1.out.2
  have of := free2 HI1.out.2
  cases x
  · go_wp2_with fail
    refine t35_out (⟨false, []⟩, none, 0) 0 2 HI1.out rfl rfl rfl ?_
    intro W' h1 h2
    exact ⟨rfl, h1⟩
  · cases a
    · cases b
      · exact (HF.out rfl rfl rfl).elim
      · go_wp2_with fail
        refine t35_out (⟨false, []⟩, none, 0) 0 2 HI1.out rfl rfl rfl ?_
        intro W' h1 h2
        exact ⟨rfl, h1⟩
    · go_wp2_with fail
      refine t35_out (⟨false, []⟩, none, 0) 0 2 HI1.out rfl rfl rfl ?_
      intro W' h1 h2
      exact ⟨rfl, h1⟩
set_option maxRecDepth 100000 in
set_option maxHeartbeats 40000000 in
theorem t34_none (A : Option Addr) (c : Nat) (l : List Int) (n p : Nat) (w : World) (hr : Kd.C (Kd.int .u8) w A l.length l) (hc : l.length ≤ c) (hb : Bytes l) (hl : l.length ≤ 140737488351232) (hrt : Math.rightB l (n : Int) = true) (hp : p ≤ n) (hx : readB 33 l n p = none) :
    Calls Try.prog 34 #[.slice A l.length c, .int .i64 (n : Int), .int .i64 (p : Int)] w fun e w' => ∃ k : Kd2, e = .returned (.tuple #[kv k, .int .i64 0, .int .i64 40]) ∧ k.1 = ⟨false, []⟩ ∧ Ft w' (fun j => w.heap.size ≤ j) k ∧ Below w.heap.size w w' := by
  have HI := Lib.hid (t59B.mk0 w)
  have HC := Lib.hid hr
  have HN0 := (Math.rightB_iff.1 hrt).2.1
  have HX : Hid (bits_Right.f l (n : Int) = some true) := Lib.hid (by rw [Math.right_some hb (by omega) (by omega) (by omega), hrt])
  have HB := Lib.hid hb
  have HL : Hid (l.length ≤ 140737488355328) := Lib.hid (by omega)
  have HRT := Lib.hid hrt
  have HP := Lib.hid hp
  have hu24 := Try.underlying24
  have hu22 := Try.underlying22
  have hu26 := Try.underlying26
  have d0 : decide ((p : Int) < 0) = false := decide_eq_false (by omega)
  have d1 : decide ((n : Int) < (p : Int)) = false := decide_eq_false (by omega)
  have d2 : decide (n < p) = false := decide_eq_false (by omega)
  clear hr hb hl hrt hp HN0
  go_enter Try.func34, Try.ntmps34
  go_wp2_with fail
  refine (bits_Right.calls A c l (n : Int) true _ (Kd.C_below HC.out HI.out.1) hc HX.out).mono ?_
  rintro e w0 ⟨rfl, hd⟩
  have HI0 := Lib.hid (HI.out.step hd.below)
  clear hd
  go_wp2_with fail
  refine (take58 A c l n p _ (Kd.C_below HC.out HI0.out.1) hc HB.out HL.out HRT.out HP.out).mono ?_
  rintro e w1 ⟨k, rfl, hk, fk, hb1⟩
  have hI1 := HI0.out.step hb1
  have HI2 := Lib.hid (hI1.step ((Below.refl _ _).alloc (Nat.le_refl _) (.cells #[.bool k.1.f0, .slice k.2.1 k.1.f1.length k.2.2] 24)))
  have FK2 := Lib.hid ((fk.mono (fun j hj => Nat.lt_of_lt_of_le (Array.getElem?_eq_some_iff.1 HI0.out.2).1 hj) : Ft w1 (fun j => w.heap.size < j) k).below ((Below.refl _ _).alloc (Nat.le_refl _) (.cells #[.bool k.1.f0, .slice k.2.1 k.1.f1.length k.2.2] 24)))
  have G2 := Lib.hid (box24.new w1 k)
  rw [(readBP_none hx)] at hk ⊢
  have HK := Lib.hid hk
  clear hb1 hI1 fk hk
  have q0 := G2.out.c0
  have q1 := G2.out.c1
  go_wp2_with fail
  obtain ⟨W2, hW2⟩ : ∃ W, w1.alloc (.cells #[.bool k.1.f0, .slice k.2.1 k.1.f1.length k.2.2] 24) = W := ⟨_, rfl⟩
  rw [hW2] at HI2 FK2 G2 q0 q1 ⊢
  clear hW2
  have ID2 : Hid (t59B w W2.drew _) := Lib.hid (HI2.out.step (W' := W2.drew) (Below.refl _ _).drew)
  have GD2 : Hid (box24 W2.drew w1.heap.size k) := G2
  have FD2 : Hid (Ft W2.drew (fun j => w.heap.size < j) k) := Lib.hid (FK2.out.below (W' := W2.drew) (Below.refl _ _).drew)
  have c2 : W2.drew.cell? ⟨w1.heap.size, 0, none⟩ = _ := GD2.out.c0
  have c3 : W2.drew.cell? ⟨w1.heap.size, 1, none⟩ = _ := GD2.out.c1
  have G9 := GD2
  first | (go_region_with (first | fail)) | fail
  all_goals clear c2 c3 q0 q1
  all_goals
    have n0 := cell0 HI2.out.2
    have m0 := cell1 HI2.out.2
    have f0 := free2 HI2.out.2
    have q0 := G9.out.c0
    have q1 := G9.out.c1
    go_wp2_with fail
    refine t34_outd (⟨false, []⟩, none, 0) 0 40 HI2.out rfl rfl rfl ?_
    intro W' h1 h2
    exact ⟨_, rfl, rfl, Ft.leaf _ _ _, h1⟩
set_option maxRecDepth 100000 in
set_option maxHeartbeats 40000000 in
theorem t34_wrong (A : Option Addr) (c : Nat) (l : List Int) (n p : Nat) (w : World) (hr : Kd.C (Kd.int .u8) w A l.length l) (hc : l.length ≤ c) (hb : Bytes l) (hl : l.length ≤ 140737488351232) (hrt : Math.rightB l (n : Int) = true) (hp : p ≤ n) (t : T) (q : Nat) (hx : readB 33 l n p = some (t, q)) (hr2 : ¬ t.right) :
    Calls Try.prog 34 #[.slice A l.length c, .int .i64 (n : Int), .int .i64 (p : Int)] w fun e w' => ∃ k : Kd2, e = .returned (.tuple #[kv k, .int .i64 0, .int .i64 40]) ∧ k.1 = ⟨false, []⟩ ∧ Ft w' (fun j => w.heap.size ≤ j) k ∧ Below w.heap.size w w' := by
  have HI := Lib.hid (t59B.mk0 w)
  have HC := Lib.hid hr
  have HN0 := (Math.rightB_iff.1 hrt).2.1
  have HX : Hid (bits_Right.f l (n : Int) = some true) := Lib.hid (by rw [Math.right_some hb (by omega) (by omega) (by omega), hrt])
  have HB := Lib.hid hb
  have HL : Hid (l.length ≤ 140737488355328) := Lib.hid (by omega)
  have HRT := Lib.hid hrt
  have HP := Lib.hid hp
  have hu24 := Try.underlying24
  have hu22 := Try.underlying22
  have hu26 := Try.underlying26
  have d0 : decide ((p : Int) < 0) = false := decide_eq_false (by omega)
  have d1 : decide ((n : Int) < (p : Int)) = false := decide_eq_false (by omega)
  have d2 : decide (n < p) = false := decide_eq_false (by omega)
  clear hr hb hl hrt hp HN0
  go_enter Try.func34, Try.ntmps34
  go_wp2_with fail
  refine (bits_Right.calls A c l (n : Int) true _ (Kd.C_below HC.out HI.out.1) hc HX.out).mono ?_
  rintro e w0 ⟨rfl, hd⟩
  have HI0 := Lib.hid (HI.out.step hd.below)
  clear hd
  go_wp2_with fail
  refine (take58 A c l n p _ (Kd.C_below HC.out HI0.out.1) hc HB.out HL.out HRT.out HP.out).mono ?_
  rintro e w1 ⟨k, rfl, hk, fk, hb1⟩
  have hI1 := HI0.out.step hb1
  have HI2 := Lib.hid (hI1.step ((Below.refl _ _).alloc (Nat.le_refl _) (.cells #[.bool k.1.f0, .slice k.2.1 k.1.f1.length k.2.2] 24)))
  have FK2 := Lib.hid ((fk.mono (fun j hj => Nat.lt_of_lt_of_le (Array.getElem?_eq_some_iff.1 HI0.out.2).1 hj) : Ft w1 (fun j => w.heap.size < j) k).below ((Below.refl _ _).alloc (Nat.le_refl _) (.cells #[.bool k.1.f0, .slice k.2.1 k.1.f1.length k.2.2] 24)))
  have G2 := Lib.hid (box24.new w1 k)
  rw [(readBP_some hx)] at hk ⊢
  have HK := Lib.hid hk
  clear hb1 hI1 fk hk
  have q0 := G2.out.c0
  have q1 := G2.out.c1
  go_wp2_with fail
  obtain ⟨W2, hW2⟩ : ∃ W, w1.alloc (.cells #[.bool k.1.f0, .slice k.2.1 k.1.f1.length k.2.2] 24) = W := ⟨_, rfl⟩
  rw [hW2] at HI2 FK2 G2 q0 q1 ⊢
  clear hW2
  have ID2 : Hid (t59B w W2.drew _) := Lib.hid (HI2.out.step (W' := W2.drew) (Below.refl _ _).drew)
  have GD2 : Hid (box24 W2.drew w1.heap.size k) := G2
  have FD2 : Hid (Ft W2.drew (fun j => w.heap.size < j) k) := Lib.hid (FK2.out.below (W' := W2.drew) (Below.refl _ _).drew)
  have c2 : W2.drew.cell? ⟨w1.heap.size, 0, none⟩ = _ := GD2.out.c0
  have c3 : W2.drew.cell? ⟨w1.heap.size, 1, none⟩ = _ := GD2.out.c1
  have G9 := GD2
  have hq0 : decide ((q : Int) < 0) = false := decide_eq_false (by omega)
  have RT : Hid (decide t.right = false) := Lib.hid (decide_eq_false hr2)
  first | (go_region_with (first
    | (go_at_call 17; (with_reducible refine (Right17q k t _ HK.out _ FD2.out).mono ?_); rintro e w5 ⟨rfl, hb5⟩; have HI5 := Lib.hid (ID2.out.step hb5); have G9 : Hid (box24 w5 w1.heap.size k) := Lib.hid (GD2.out.below hb5); rw [RT.out]; clear hb5))) | fail
  all_goals clear c2 c3 q0 q1
  all_goals
    have n0 := cell0 HI5.out.2
    have m0 := cell1 HI5.out.2
    have f0 := free2 HI5.out.2
    have q0 := G9.out.c0
    have q1 := G9.out.c1
    go_wp2_with fail
    refine t34_out (⟨false, []⟩, none, 0) 0 40 HI5.out rfl rfl rfl ?_
    intro W' h1 h2
    exact ⟨_, rfl, rfl, Ft.leaf _ _ _, h1⟩
set_option maxRecDepth 100000 in
set_option maxHeartbeats 40000000 in
theorem t34_other (A : Option Addr) (c : Nat) (l : List Int) (n p : Nat) (w : World) (hr : Kd.C (Kd.int .u8) w A l.length l) (hc : l.length ≤ c) (hb : Bytes l) (hl : l.length ≤ 140737488351232) (hrt : Math.rightB l (n : Int) = true) (hp : p ≤ n) (t : T) (q : Nat) (hx : readB 33 l n p = some (t, q)) (hr2 : t.right) (he : T.eqb t t.norm = false) :
    Calls Try.prog 34 #[.slice A l.length c, .int .i64 (n : Int), .int .i64 (p : Int)] w fun e w' => ∃ k : Kd2, e = .returned (.tuple #[kv k, .int .i64 0, .int .i64 40]) ∧ k.1 = ⟨false, []⟩ ∧ Ft w' (fun j => w.heap.size ≤ j) k ∧ Below w.heap.size w w' := by
  have HI := Lib.hid (t59B.mk0 w)
  have HC := Lib.hid hr
  have HN0 := (Math.rightB_iff.1 hrt).2.1
  have HX : Hid (bits_Right.f l (n : Int) = some true) := Lib.hid (by rw [Math.right_some hb (by omega) (by omega) (by omega), hrt])
  have HB := Lib.hid hb
  have HL : Hid (l.length ≤ 140737488355328) := Lib.hid (by omega)
  have HRT := Lib.hid hrt
  have HP := Lib.hid hp
  have hu24 := Try.underlying24
  have hu22 := Try.underlying22
  have hu26 := Try.underlying26
  have d0 : decide ((p : Int) < 0) = false := decide_eq_false (by omega)
  have d1 : decide ((n : Int) < (p : Int)) = false := decide_eq_false (by omega)
  have d2 : decide (n < p) = false := decide_eq_false (by omega)
  clear hr hb hl hrt hp HN0
  go_enter Try.func34, Try.ntmps34
  go_wp2_with fail
  refine (bits_Right.calls A c l (n : Int) true _ (Kd.C_below HC.out HI.out.1) hc HX.out).mono ?_
  rintro e w0 ⟨rfl, hd⟩
  have HI0 := Lib.hid (HI.out.step hd.below)
  clear hd
  go_wp2_with fail
  refine (take58 A c l n p _ (Kd.C_below HC.out HI0.out.1) hc HB.out HL.out HRT.out HP.out).mono ?_
  rintro e w1 ⟨k, rfl, hk, fk, hb1⟩
  have hI1 := HI0.out.step hb1
  have HI2 := Lib.hid (hI1.step ((Below.refl _ _).alloc (Nat.le_refl _) (.cells #[.bool k.1.f0, .slice k.2.1 k.1.f1.length k.2.2] 24)))
  have FK2 := Lib.hid ((fk.mono (fun j hj => Nat.lt_of_lt_of_le (Array.getElem?_eq_some_iff.1 HI0.out.2).1 hj) : Ft w1 (fun j => w.heap.size < j) k).below ((Below.refl _ _).alloc (Nat.le_refl _) (.cells #[.bool k.1.f0, .slice k.2.1 k.1.f1.length k.2.2] 24)))
  have G2 := Lib.hid (box24.new w1 k)
  rw [(readBP_some hx)] at hk ⊢
  have HK := Lib.hid hk
  clear hb1 hI1 fk hk
  have q0 := G2.out.c0
  have q1 := G2.out.c1
  go_wp2_with fail
  obtain ⟨W2, hW2⟩ : ∃ W, w1.alloc (.cells #[.bool k.1.f0, .slice k.2.1 k.1.f1.length k.2.2] 24) = W := ⟨_, rfl⟩
  rw [hW2] at HI2 FK2 G2 q0 q1 ⊢
  clear hW2
  have ID2 : Hid (t59B w W2.drew _) := Lib.hid (HI2.out.step (W' := W2.drew) (Below.refl _ _).drew)
  have GD2 : Hid (box24 W2.drew w1.heap.size k) := G2
  have FD2 : Hid (Ft W2.drew (fun j => w.heap.size < j) k) := Lib.hid (FK2.out.below (W' := W2.drew) (Below.refl _ _).drew)
  have hq0 : decide ((q : Int) < 0) = false := decide_eq_false (by omega)
  have RT : Hid (decide t.right = true) := Lib.hid (decide_eq_true hr2)
  have HE := Lib.hid he
  clear q0 q1
  go_region_held3 (fun W => W.cell? ⟨w1.heap.size, 0, none⟩ = some (.bool k.1.f0) ∧ W.cell? ⟨w1.heap.size, 1, none⟩ = some (.slice k.2.1 k.1.f1.length k.2.2))
    (with_reducible first | exact cellsBox GD2.out | exact cellsBox G2.out | exact cellsBox G5.out | exact cellsBox G6.out | exact cellsBox G9.out)
    (first
      | (go_at_call 46; (with_reducible refine (equal_calls t t.norm k nk _ (fun _ => True) HK.out HNK.out F6T.out FN6.out).mono ?_); rintro e w7 ⟨rfl, hb7⟩; have HI7 := Lib.hid (HI6.out.step hb7); have G9 : Hid (box24 w7 w1.heap.size k) := Lib.hid (G6.out.below hb7); have F9 := Lib.hid (F6.out.below hb7); rw [HE.out]; clear hb7)
      | (go_at_call 36; (with_reducible refine (norm_calls k t _ HK.out (Ft.len1 F5.out) F5.out.now).mono ?_); rintro e w6 ⟨nk, rfl, hnk, fnk, hb6⟩; have HI6 := Lib.hid (HI5.out.step hb6); have G6 : Hid (box24 w6 w1.heap.size k) := Lib.hid (G5.out.below hb6); have F6 := Lib.hid (F5.out.below hb6); have F6T : Hid (Ft w6 (fun _ => True) k) := Lib.hid (F6.out.mono (fun _ _ => trivial)); have HNK := Lib.hid hnk; have FN6 : Hid (Ft w6 (fun _ => True) nk) := Lib.hid (fnk.mono (fun _ _ => trivial)); clear hnk fnk hb6)
      | (go_at_call 17; (with_reducible refine (Right17q k t _ HK.out _ FD2.out).mono ?_); rintro e w5 ⟨rfl, hb5⟩; have HI5 := Lib.hid (ID2.out.step hb5); have G5 : Hid (box24 w5 w1.heap.size k) := Lib.hid (GD2.out.below hb5); have F5 := Lib.hid (FD2.out.below hb5); rw [RT.out]; clear hb5))
  all_goals
    rename_i hHeld
    clear hHeld
  all_goals
    have n0 := cell0 HI7.out.2
    have m0 := cell1 HI7.out.2
    have f0 := free2 HI7.out.2
    have q0 := G9.out.c0
    have q1 := G9.out.c1
    go_wp2_with fail
    refine t34_out (⟨false, []⟩, none, 0) 0 40 HI7.out rfl rfl rfl ?_
    intro W' h1 h2
    exact ⟨_, rfl, rfl, Ft.leaf _ _ _, h1⟩
set_option maxRecDepth 100000 in
set_option maxHeartbeats 40000000 in
theorem t34_good (A : Option Addr) (c : Nat) (l : List Int) (n p : Nat) (w : World) (hr : Kd.C (Kd.int .u8) w A l.length l) (hc : l.length ≤ c) (hb : Bytes l) (hl : l.length ≤ 140737488351232) (hrt : Math.rightB l (n : Int) = true) (hp : p ≤ n) (t : T) (q : Nat) (hx : readB 33 l n p = some (t, q)) (hr2 : t.right) (he : T.eqb t t.norm = true) :
    Calls Try.prog 34 #[.slice A l.length c, .int .i64 (n : Int), .int .i64 (p : Int)] w fun e w' => ∃ k : Kd2, e = .returned (.tuple #[kv k, .int .i64 (q : Int), .int .i64 0]) ∧ k.1 = t.toS ∧ Ft w' (fun j => w.heap.size ≤ j) k ∧ Below w.heap.size w w' := by
  have HI := Lib.hid (t59B.mk0 w)
  have HC := Lib.hid hr
  have HN0 := (Math.rightB_iff.1 hrt).2.1
  have HX : Hid (bits_Right.f l (n : Int) = some true) := Lib.hid (by rw [Math.right_some hb (by omega) (by omega) (by omega), hrt])
  have HB := Lib.hid hb
  have HL : Hid (l.length ≤ 140737488355328) := Lib.hid (by omega)
  have HRT := Lib.hid hrt
  have HP := Lib.hid hp
  have hu24 := Try.underlying24
  have hu22 := Try.underlying22
  have hu26 := Try.underlying26
  have d0 : decide ((p : Int) < 0) = false := decide_eq_false (by omega)
  have d1 : decide ((n : Int) < (p : Int)) = false := decide_eq_false (by omega)
  have d2 : decide (n < p) = false := decide_eq_false (by omega)
  clear hr hb hl hrt hp HN0
  go_enter Try.func34, Try.ntmps34
  go_wp2_with fail
  refine (bits_Right.calls A c l (n : Int) true _ (Kd.C_below HC.out HI.out.1) hc HX.out).mono ?_
  rintro e w0 ⟨rfl, hd⟩
  have HI0 := Lib.hid (HI.out.step hd.below)
  clear hd
  go_wp2_with fail
  refine (take58 A c l n p _ (Kd.C_below HC.out HI0.out.1) hc HB.out HL.out HRT.out HP.out).mono ?_
  rintro e w1 ⟨k, rfl, hk, fk, hb1⟩
  have hI1 := HI0.out.step hb1
  have HI2 := Lib.hid (hI1.step ((Below.refl _ _).alloc (Nat.le_refl _) (.cells #[.bool k.1.f0, .slice k.2.1 k.1.f1.length k.2.2] 24)))
  have FK2 := Lib.hid ((fk.mono (fun j hj => Nat.lt_of_lt_of_le (Array.getElem?_eq_some_iff.1 HI0.out.2).1 hj) : Ft w1 (fun j => w.heap.size < j) k).below ((Below.refl _ _).alloc (Nat.le_refl _) (.cells #[.bool k.1.f0, .slice k.2.1 k.1.f1.length k.2.2] 24)))
  have G2 := Lib.hid (box24.new w1 k)
  rw [(readBP_some hx)] at hk ⊢
  have HK := Lib.hid hk
  clear hb1 hI1 fk hk
  have q0 := G2.out.c0
  have q1 := G2.out.c1
  go_wp2_with fail
  obtain ⟨W2, hW2⟩ : ∃ W, w1.alloc (.cells #[.bool k.1.f0, .slice k.2.1 k.1.f1.length k.2.2] 24) = W := ⟨_, rfl⟩
  rw [hW2] at HI2 FK2 G2 q0 q1 ⊢
  clear hW2
  have ID2 : Hid (t59B w W2.drew _) := Lib.hid (HI2.out.step (W' := W2.drew) (Below.refl _ _).drew)
  have GD2 : Hid (box24 W2.drew w1.heap.size k) := G2
  have FD2 : Hid (Ft W2.drew (fun j => w.heap.size < j) k) := Lib.hid (FK2.out.below (W' := W2.drew) (Below.refl _ _).drew)
  have hq0 : decide ((q : Int) < 0) = false := decide_eq_false (by omega)
  have RT : Hid (decide t.right = true) := Lib.hid (decide_eq_true hr2)
  have HE := Lib.hid he
  clear q0 q1
  go_region_held3 (fun W => W.cell? ⟨w1.heap.size, 0, none⟩ = some (.bool k.1.f0) ∧ W.cell? ⟨w1.heap.size, 1, none⟩ = some (.slice k.2.1 k.1.f1.length k.2.2))
    (with_reducible first | exact cellsBox GD2.out | exact cellsBox G2.out | exact cellsBox G5.out | exact cellsBox G6.out | exact cellsBox G9.out)
    (first
      | (go_at_call 46; (with_reducible refine (equal_calls t t.norm k nk _ (fun _ => True) HK.out HNK.out F6T.out FN6.out).mono ?_); rintro e w7 ⟨rfl, hb7⟩; have HI7 := Lib.hid (HI6.out.step hb7); have G9 : Hid (box24 w7 w1.heap.size k) := Lib.hid (G6.out.below hb7); have F9 := Lib.hid (F6.out.below hb7); rw [HE.out]; clear hb7)
      | (go_at_call 36; (with_reducible refine (norm_calls k t _ HK.out (Ft.len1 F5.out) F5.out.now).mono ?_); rintro e w6 ⟨nk, rfl, hnk, fnk, hb6⟩; have HI6 := Lib.hid (HI5.out.step hb6); have G6 : Hid (box24 w6 w1.heap.size k) := Lib.hid (G5.out.below hb6); have F6 := Lib.hid (F5.out.below hb6); have F6T : Hid (Ft w6 (fun _ => True) k) := Lib.hid (F6.out.mono (fun _ _ => trivial)); have HNK := Lib.hid hnk; have FN6 : Hid (Ft w6 (fun _ => True) nk) := Lib.hid (fnk.mono (fun _ _ => trivial)); clear hnk fnk hb6)
      | (go_at_call 17; (with_reducible refine (Right17q k t _ HK.out _ FD2.out).mono ?_); rintro e w5 ⟨rfl, hb5⟩; have HI5 := Lib.hid (ID2.out.step hb5); have G5 : Hid (box24 w5 w1.heap.size k) := Lib.hid (GD2.out.below hb5); have F5 := Lib.hid (FD2.out.below hb5); rw [RT.out]; clear hb5))
  all_goals
    rename_i hHeld
    clear hHeld
  all_goals
    have n0 := cell0 HI7.out.2
    have m0 := cell1 HI7.out.2
    have f0 := free2 HI7.out.2
    have q0 := G9.out.c0
    have q1 := G9.out.c1
    go_wp2_with fail
    refine t34_out k _ 0 HI7.out rfl rfl rfl ?_
    intro W' h1 h2
    exact ⟨k, rfl, HK.out, (F9.out.move (fun j (hj : w.heap.size < j) => h2 j (Nat.ne_of_gt hj))).mono (fun j (hj : w.heap.size < j) => Nat.le_of_lt hj), h1⟩
/-- id.Take. -/
theorem Take34 (A : Option Addr) (c : Nat) (l : List Int) (n p : Int) (w : World) (hr : Kd.C (Kd.int .u8) w A l.length l) (hc : l.length ≤ c) (hb : Bytes l) (hl : l.length ≤ 140737488351232) (n0 : -9223372036854775808 ≤ n) (n1 : n ≤ 9223372036854775807) :
    Calls Try.prog 34 #[.slice A l.length c, .int .i64 n, .int .i64 p] w fun e w' => ∃ k : Kd2, e = .returned (.tuple #[kv k, .int .i64 (TakeT l n p).2.1, .int .i64 (TakeT l n p).2.2]) ∧ k.1 = (TakeT l n p).1.toS ∧ Ft w' (fun j => w.heap.size ≤ j) k ∧ Below w.heap.size w w' := by
  have hf := Math.right_some hb (by omega) n0 n1
  by_cases h : Math.rightB l n = true ∧ 0 ≤ p ∧ p ≤ n
  · obtain ⟨h1, h2, h3⟩ := h
    obtain ⟨r0, r1, _⟩ := Math.rightB_iff.1 h1
    obtain ⟨N, rfl⟩ := Int.eq_ofNat_of_zero_le r0
    obtain ⟨P, rfl⟩ := Int.eq_ofNat_of_zero_le h2
    have hp : P ≤ N := by omega
    cases hx : readB 33 l N P with
    | none =>
      rw [TakeT_none h1 hp hx]
      exact t34_none A c l N P w hr hc hb hl h1 hp hx
    | some x =>
      obtain ⟨t, q⟩ := x
      rw [TakeT_some h1 hp hx]
      by_cases hr2 : t.right
      · cases he : T.eqb t t.norm
        · rw [if_neg (by simp)]
          exact t34_other A c l N P w hr hc hb hl h1 hp t q hx hr2 he
        · rw [if_pos ⟨hr2, rfl⟩]
          exact t34_good A c l N P w hr hc hb hl h1 hp t q hx hr2 he
      · rw [if_neg (fun h => hr2 h.1)]
        exact t34_wrong A c l N P w hr hc hb hl h1 hp t q hx hr2
  · rw [TakeT_bad h]
    refine (t34_bad A c l n p w _ hr hc hf h).mono ?_
    rintro e w' ⟨rfl, hb'⟩
    exact ⟨_, rfl, rfl, Ft.leaf _ _ _, hb'⟩
end Go.Proofs.Ytlhaofbncoijfaa.HandF
namespace Go.Proofs.Ytlhaofbncoijfaa.X
open Go.RowKit Go.Proofs.YtlhaofbncoijfaaW.PrintWords Go.Proofs.YtlhaofbncoijfaaW.PrintLast Go.Proofs.YtlhaofbncoijfaaW.PrintMore Go.Proofs.Ytlhaofbncoijfaa.HandF
attribute [local go_sem] max2_int min2_int max_two min_two max_three min_three max_four min_four   -- for this text's walks alone
set_option linter.unusedVariables false
set_option linter.unusedSimpArgs false

/-! ### stringslite_HasPrefix: function 86 -/
def stringslite_HasPrefix.f (a0 : ByteArray) (a1 : ByteArray) : Option (Bool) := if (a0.size : Int) ≥ (a1.size : Int) then (if 0 ≤ (a1.size : Int) then (if (a1.size : Int) ≤ (a0.size : Int) then (some ((a0.extract 0 ((a1.size : Int) : Int).toNat).toList == a1.toList)) else (none)) else (none)) else (some false)
set_option maxHeartbeats 8000000 in
set_option maxRecDepth 100000 in
theorem stringslite_HasPrefix.calls (a0 : ByteArray) (a1 : ByteArray) (r : Bool) (w : World) (h : stringslite_HasPrefix.f a0 a1 = some r) :
    Calls Try.prog 86 #[.string a0, .string a1] w fun e w' => e = .returned (.bool r) ∧ Drawn0 w w' := by
  have H : (if (a0.size : Int) ≥ (a1.size : Int) then (if 0 ≤ (a1.size : Int) then (if (a1.size : Int) ≤ (a0.size : Int) then (some ((a0.extract 0 ((a1.size : Int) : Int).toNat).toList == a1.toList)) else (none)) else (none)) else (some false)) = some r := h
  clear h
  by_cases c3 : (a0.size : Int) ≥ (a1.size : Int)
  · rw [if_pos c3] at H
    have c3b0 : decide ((a1.size : Int) ≤ (a0.size : Int)) = true := decide_eq_true c3
    have c3b1 : decide (a1.size ≤ a0.size) = true := decide_eq_true (Int.ofNat_le.mp c3)
    clear c3
    by_cases c4 : 0 ≤ (a1.size : Int)
    · rw [if_pos c4] at H
      have c4b0 := eq_true c4
      have c4b1 : decide (0 ≤ (a1.size : Int)) = true := decide_eq_true c4
      clear c4
      by_cases c5 : (a1.size : Int) ≤ (a0.size : Int)
      · rw [if_pos c5] at H
        have c5b0 := eq_true c5
        have c5b1 : decide ((a1.size : Int) ≤ (a0.size : Int)) = true := decide_eq_true c5
        clear c5
        obtain rfl := Option.some.inj H
        go_enter Try.func86, Try.ntmps86
        go_wp2
        go_ret
        exact ⟨by first | rfl | (simp; done) | (simp [*]; done), by repeat (first | exact Drawn0.refl _ | apply Drawn0.step)⟩
      · rw [if_neg c5] at H
        exact absurd H (by simp)
    · rw [if_neg c4] at H
      exact absurd H (by simp)
  · rw [if_neg c3] at H
    have c3b0 : decide ((a1.size : Int) ≤ (a0.size : Int)) = false := decide_eq_false c3
    have c3b1 : decide (a1.size ≤ a0.size) = false := decide_eq_false (fun h => c3 (Int.ofNat_le.mpr h))
    clear c3
    obtain rfl := Option.some.inj H
    go_enter Try.func86, Try.ntmps86
    go_wp2
    go_ret
    exact ⟨by first | rfl | (simp; done) | (simp [*]; done), by repeat (first | exact Drawn0.refl _ | apply Drawn0.step)⟩

end Go.Proofs.Ytlhaofbncoijfaa.X
namespace Go.Proofs.Ytlhaofbncoijfaa.X
open Go.RowKit Go.Proofs.YtlhaofbncoijfaaW.PrintWords Go.Proofs.YtlhaofbncoijfaaW.PrintLast Go.Proofs.YtlhaofbncoijfaaW.PrintMore Go.Proofs.Ytlhaofbncoijfaa.HandF
attribute [local go_sem] max2_int min2_int max_two min_two max_three min_three max_four min_four   -- for this text's walks alone
set_option linter.unusedVariables false
set_option linter.unusedSimpArgs false

/-! ### stringslite_CutPrefix: function 84 -/
def stringslite_CutPrefix.f (a0 : ByteArray) (a1 : ByteArray) : Option (ByteArray × Bool) := (stringslite_HasPrefix.f a0 a1).bind fun t251 => (if t251 = true then (if 0 ≤ (a1.size : Int) then (if (a1.size : Int) ≤ (a0.size : Int) then (some (a0.extract ((a1.size : Int) : Int).toNat a0.size, true)) else (none)) else (none)) else (some (a0, false)))
set_option maxHeartbeats 8000000 in
set_option maxRecDepth 100000 in
theorem stringslite_CutPrefix.calls (a0 : ByteArray) (a1 : ByteArray) (r1 : ByteArray) (r2 : Bool) (w : World) (h : stringslite_CutPrefix.f a0 a1 = some (r1, r2)) :
    Calls Try.prog 84 #[.string a0, .string a1] w fun e w' => e = .returned (.tuple #[.string r1, .bool r2]) ∧ Drawn0 w w' := by
  have H : ((stringslite_HasPrefix.f a0 a1).bind fun t251 => (if t251 = true then (if 0 ≤ (a1.size : Int) then (if (a1.size : Int) ≤ (a0.size : Int) then (some (a0.extract ((a1.size : Int) : Int).toNat a0.size, true)) else (none)) else (none)) else (some (a0, false)))) = some (r1, r2) := h
  clear h
  replace H := Option.bind_eq_some_iff.mp H
  obtain ⟨t251, A30, H⟩ := H
  replace H : (if t251 = true then (if 0 ≤ (a1.size : Int) then (if (a1.size : Int) ≤ (a0.size : Int) then (some (a0.extract ((a1.size : Int) : Int).toNat a0.size, true)) else (none)) else (none)) else (some (a0, false))) = some (r1, r2) := H
  have A3 := Aside0.mk A30
  clear A30
  by_cases c4 : t251 = true
  · subst c4
    have H1 : (if 0 ≤ (a1.size : Int) then (if (a1.size : Int) ≤ (a0.size : Int) then (some (a0.extract ((a1.size : Int) : Int).toNat a0.size, true)) else (none)) else (none)) = some (r1, r2) := by rw [if_pos rfl] at H; exact H
    clear H
    have H := H1
    clear H1
    by_cases c5 : 0 ≤ (a1.size : Int)
    · rw [if_pos c5] at H
      have c5b0 := eq_true c5
      have c5b1 : decide (0 ≤ (a1.size : Int)) = true := decide_eq_true c5
      clear c5
      by_cases c6 : (a1.size : Int) ≤ (a0.size : Int)
      · rw [if_pos c6] at H
        have c6b0 := eq_true c6
        have c6b1 : decide ((a1.size : Int) ≤ (a0.size : Int)) = true := decide_eq_true c6
        clear c6
        simp only [Option.some.injEq, Prod.mk.injEq] at H
        obtain ⟨rfl, rfl⟩ := H
        go_enter Try.func84, Try.ntmps84
        go_wp2_with (first | ((with_reducible refine gate_callee (f := 86) rfl ?_); refine goesL_ (some 8) rfl rfl Try.func86 (by kernel_rfl) rfl #[.string a0, .string a1] rfl (by (try simp only [List.map_toArray, List.map_cons, List.map_nil]); first | done | rfl | (simp only [List.length_drop, List.length_take]; rfl)) ?_; (with_reducible refine (stringslite_HasPrefix.calls a0 a1 true _ A3.out).mono ?_); rintro e w' ⟨rfl, ⟨nd, rfl⟩⟩; refine ⟨_, rfl, ?_⟩))
        go_ret2
        exact ⟨by first | rfl | (simp; done) | (simp [*]; done), by repeat (first | exact Drawn0.refl _ | apply Drawn0.step)⟩
      · rw [if_neg c6] at H
        exact absurd H (by simp)
    · rw [if_neg c5] at H
      exact absurd H (by simp)
  · replace c4 := Bool.eq_false_iff.mpr c4
    subst c4
    have H1 : (some (a0, false)) = some (r1, r2) := by rw [if_neg (show ¬ (false = true) by decide)] at H; exact H
    clear H
    have H := H1
    clear H1
    simp only [Option.some.injEq, Prod.mk.injEq] at H
    obtain ⟨rfl, rfl⟩ := H
    go_enter Try.func84, Try.ntmps84
    go_wp2_with (first | ((with_reducible refine gate_callee (f := 86) rfl ?_); refine goesL_ (some 8) rfl rfl Try.func86 (by kernel_rfl) rfl #[.string a0, .string a1] rfl (by (try simp only [List.map_toArray, List.map_cons, List.map_nil]); first | done | rfl | (simp only [List.length_drop, List.length_take]; rfl)) ?_; (with_reducible refine (stringslite_HasPrefix.calls a0 a1 false _ A3.out).mono ?_); rintro e w' ⟨rfl, ⟨nd, rfl⟩⟩; refine ⟨_, rfl, ?_⟩))
    go_ret2
    exact ⟨by first | rfl | (simp; done) | (simp [*]; done), by repeat (first | exact Drawn0.refl _ | apply Drawn0.step)⟩

end Go.Proofs.Ytlhaofbncoijfaa.X
namespace Go.Proofs.Ytlhaofbncoijfaa.X
open Go.RowKit Go.Proofs.YtlhaofbncoijfaaW.PrintWords Go.Proofs.YtlhaofbncoijfaaW.PrintLast Go.Proofs.YtlhaofbncoijfaaW.PrintMore Go.Proofs.Ytlhaofbncoijfaa.HandF
attribute [local go_sem] max2_int min2_int max_two min_two max_three min_three max_four min_four   -- for this text's walks alone
set_option linter.unusedVariables false
set_option linter.unusedSimpArgs false

/-! ### strings_CutPrefix: function 78 -/
def strings_CutPrefix.f (a0 : ByteArray) (a1 : ByteArray) : Option (ByteArray × Bool) := (stringslite_CutPrefix.f a0 a1).bind fun bt252 => (some (bt252.1, bt252.2))
set_option maxHeartbeats 8000000 in
set_option maxRecDepth 100000 in
theorem strings_CutPrefix.calls (a0 : ByteArray) (a1 : ByteArray) (r1 : ByteArray) (r2 : Bool) (w : World) (h : strings_CutPrefix.f a0 a1 = some (r1, r2)) :
    Calls Try.prog 78 #[.string a0, .string a1] w fun e w' => e = .returned (.tuple #[.string r1, .bool r2]) ∧ Drawn0 w w' := by
  have H : ((stringslite_CutPrefix.f a0 a1).bind fun bt252 => (some (bt252.1, bt252.2))) = some (r1, r2) := h
  clear h
  replace H := Option.bind_eq_some_iff.mp H
  obtain ⟨⟨t252, t253⟩, A30, H⟩ := H
  replace H : (some (t252, t253)) = some (r1, r2) := H
  have A3 := Aside0.mk A30
  clear A30
  simp only [Option.some.injEq, Prod.mk.injEq] at H
  obtain ⟨rfl, rfl⟩ := H
  go_enter Try.func78, Try.ntmps78
  go_wp2_with (first | ((with_reducible refine gate_callee (f := 84) rfl ?_); refine goesL_ (some 8) rfl rfl Try.func84 (by kernel_rfl) rfl #[.string a0, .string a1] rfl (by (try simp only [List.map_toArray, List.map_cons, List.map_nil]); first | done | rfl | (simp only [List.length_drop, List.length_take]; rfl)) ?_; (with_reducible refine (stringslite_CutPrefix.calls a0 a1 t252 t253 _ A3.out).mono ?_); rintro e w' ⟨rfl, ⟨nd, rfl⟩⟩; refine ⟨_, rfl, ?_⟩))
  go_ret2
  exact ⟨by first | rfl | (simp; done) | (simp [*]; done), by repeat (first | exact Drawn0.refl _ | apply Drawn0.step)⟩

end Go.Proofs.Ytlhaofbncoijfaa.X
namespace Go.Proofs.Ytlhaofbncoijfaa.Tree
set_option linter.unusedVariables false
open Go.Proofs.Ytlhaofbncoijfaa.X
/-- A sign is taken, if it stands next. -/
def take1 (c : UInt8) : List UInt8 → Bool × List UInt8
  | [] => (false, [])
  | x :: r => if x = c then (true, r) else (false, x :: r)
theorem take1_false {c : UInt8} {l r : List UInt8} (h : take1 c l = (false, r)) : r = l := by
  cases l with
  | nil => simp [take1] at h; exact h
  | cons x t =>
    simp only [take1] at h
    split at h
    · cases h
    · cases h; rfl
theorem take1_true {c : UInt8} {l r : List UInt8} (h : take1 c l = (true, r)) : l = c :: r := by
  cases l with
  | nil => simp [take1] at h
  | cons x t =>
    simp only [take1] at h
    split at h
    · rename_i e; cases h; rw [e]
    · cases h
def sepT (c : UInt8) (l : List UInt8) (bad : Bool) : List UInt8 × Bool := if bad = true then (l, true) else ((take1 c l).2, !(take1 c l).1)
/-- The tree that is read, what is left, and whether it is bad; n: the depth and one. -/
def readT : Nat → List UInt8 → Bool → T × List UInt8 × Bool
  | 0, l, _ => (.leaf false, l, true)
  | n + 1, l, bad =>
    if bad = true then (.leaf false, l, true)
    else if (take1 49 l).1 = true then (.leaf true, (take1 49 l).2, false)
    else if (take1 48 l).1 = true then (.leaf false, (take1 48 l).2, false)
    else if (take1 40 l).1 = true then
      let x := readT n (take1 40 l).2 false
      let y := sepT 44 x.2.1 x.2.2
      let z := readT n y.1 y.2
      let u := sepT 41 z.2.1 z.2.2
      (.node x.1 z.1, u.1, u.2)
    else (.leaf false, l, true)
theorem take_f (l : List UInt8) (c : UInt8) : strings_CutPrefix.f ⟨l.toArray⟩ ⟨#[c]⟩ = some (⟨(take1 c l).2.toArray⟩, (take1 c l).1) := by
  have hs : (⟨l.toArray⟩ : ByteArray).size = l.length := by simp [ByteArray.size]
  have h1 : (⟨#[c]⟩ : ByteArray).size = 1 := rfl
  have hc1 : (⟨#[c]⟩ : ByteArray).toList = [c] := by rw [Lib.toList_data]
  unfold strings_CutPrefix.f stringslite_CutPrefix.f stringslite_HasPrefix.f
  rw [hs, h1, hc1]
  cases l with
  | nil => rfl
  | cons x r =>
    have e0 : (((1 : Nat) : Int) : Int).toNat = 1 := rfl
    have e1 : ((⟨(x :: r).toArray⟩ : ByteArray).extract 0 1).toList = [x] := by
      have : ((⟨(x :: r).toArray⟩ : ByteArray).extract 0 1) = ⟨#[x]⟩ := by
        apply ByteArray.ext
        simp [ByteArray.data_extract]
      rw [this, Lib.toList_data]
    have e2 : (⟨(x :: r).toArray⟩ : ByteArray).extract 1 (x :: r).length = ⟨r.toArray⟩ := by
      apply ByteArray.ext
      simp [ByteArray.data_extract]
    have h2 : ((x :: r).length : Int) ≥ ((1 : Nat) : Int) := by simp only [List.length_cons]; omega
    have h3 : ((1 : Nat) : Int) ≤ ((x :: r).length : Int) := by simp only [List.length_cons]; omega
    rw [e0, e1, e2, if_pos h2, if_pos (by decide), if_pos h3, Option.bind_some]
    by_cases hx : x = c
    · subst hx
      have : ([x] == [x]) = true := by simp
      rw [this, if_pos rfl, if_pos (by decide), if_pos h3]
      simp [take1]
    · have : ([x] == [c]) = false := by simp [hx]
      rw [this, if_neg (by decide)]
      simp [take1, hx]
end Go.Proofs.Ytlhaofbncoijfaa.Tree
namespace Go.Proofs.Ytlhaofbncoijfaa.HandF
set_option linter.unusedVariables false
set_option linter.unusedSimpArgs false
open Go.RowKit Go.Proofs.Ytlhaofbncoijfaa.X Go.Proofs.Ytlhaofbncoijfaa.Tree Go.Proofs.Ytlhaofbncoijfaa.Blocks
open Go.Proofs.YtlhaofbncoijfaaW.PrintWords Go.Proofs.YtlhaofbncoijfaaW.PrintLast Go.Proofs.YtlhaofbncoijfaaW.PrintMore
/-- The reader at block g: what is left, and whether it is bad. -/
def IsR (W : World) (g : Nat) (l : List UInt8) (b : Bool) : Prop := W.heap[g]? = some (.cells #[.string ⟨l.toArray⟩, .bool b] 73 (0, 0))
set_option maxRecDepth 100000 in
theorem rtake_calls (c : UInt8) (g : Nat) (l : List UInt8) (b : Bool) (w : World) (h : IsR w g l b) :
    Calls Try.prog 70 #[.pointer (some ⟨g, 0, none⟩), .string ⟨#[c]⟩] w fun e w' => e = .returned (.bool (take1 c l).1) ∧ IsR w' g (take1 c l).2 b ∧ KeepBut w w' g none ∧ (∀ n, n ≤ g → n ≤ w.heap.size → Below n w w') := by
  have H := Lib.hid h
  have hc0 := cell0 h
  have hc1 := cell1 h
  have hf := free2 h
  clear h
  go_enter Try.func70, Try.ntmps70
  go_wp2_with fail
  refine (strings_CutPrefix.calls _ _ _ _ _ (take_f l c)).mono ?_
  rintro e w1 ⟨rfl, ⟨nd, rfl⟩⟩
  have hc0' : (w.drewN nd).cell? ⟨g, 0, none⟩ = _ := hc0
  have hc1' : (w.drewN nd).cell? ⟨g, 1, none⟩ = _ := hc1
  have hf' : ∀ o, (w.drewN nd).frozen? ⟨g, o, none⟩ = false := hf
  have H' : Hid (IsR (w.drewN nd) g l b) := H
  clear hc0 hc1 hf
  go_wp2_with fail
  go_ret
  refine ⟨rfl, set0 H'.out, ?_, ?_⟩
  · exact KeepBut.set_ ⟨Nat.le_refl _, fun _ _ _ _ => rfl⟩ _ _
  · intro n hn hn2
    exact (pw_below_drewN (Below.refl n w) nd).setCell hn _
theorem Ft.but {W W' : World} {ok : Nat → Prop} {k : Kd2} {g : Nat} (h : Ft W ok k) (hk : KeepBut W W' g none) (ho : ∀ j, ok j → j ≠ g) : Ft W' ok k :=
  (h.bound.move (fun j hj => hk.2 j hj.2 (ho j hj.1) (by simp))).mono (fun _ hj => hj.1)
/-- What the reader's tree keeps: the reader, the out, all else. -/
structure RdI (n : Nat) (w W : World) (g : Nat) (l : List UInt8) (b : Bool) : Prop where
  at_ : IsR W g l b
  below : Below n w W
  keep : KeepBut w W g none
  out : W.heap[w.heap.size]? = some (.cells #[.bool false, .slice none 0 0] 24 (0, 0))
  lt : g < w.heap.size
  le : n ≤ g
theorem RdI.step {n : Nat} {w W W' : World} {g : Nat} {l : List UInt8} {b : Bool} (h : RdI n w W g l b) (hb : Below W.heap.size W W') : RdI n w W' g l b :=
  ⟨blk_below h.at_ hb, h.below.trans (hb.mono (Nat.le_trans h.le (Nat.le_of_lt (Nat.lt_of_lt_of_le h.lt h.below.size)))), h.keep.trans (KeepBut.of_below hb g none) (.inl rfl), blk_below h.out hb, h.lt, h.le⟩
theorem RdI.call {n : Nat} {w W W' : World} {g : Nat} {l l' : List UInt8} {b b' : Bool} (h : RdI n w W g l b) (h1 : IsR W' g l' b') (h2 : KeepBut W W' g none) (h3 : Below n W W') : RdI n w W' g l' b' :=
  ⟨h1, h.below.trans h3, h.keep.trans h2 (.inl rfl), h2.blk h.out (Nat.ne_of_gt h.lt) (by simp), h.lt, h.le⟩
theorem RdI.bad {n : Nat} {w W : World} {g : Nat} {l : List UInt8} {b : Bool} (h : RdI n w W g l b) (x : Bool) : RdI n w (W.setCell ⟨g, 1, none⟩ (.bool x)) g l x :=
  ⟨set1 h.at_, h.below.setCell h.le _, h.keep.set_ _ _, (set_other (by show w.heap.size ≠ g; exact Nat.ne_of_gt h.lt)).trans h.out, h.lt, h.le⟩
theorem RdI.big {n : Nat} {w W : World} {g : Nat} {l : List UInt8} {b : Bool} (h : RdI n w W g l b) : w.heap.size ≤ W.heap.size := h.keep.1
theorem RdI.size {n : Nat} {w W : World} {g : Nat} {l : List UInt8} {b : Bool} (h : RdI n w W g l b) : n ≤ W.heap.size := Nat.le_trans h.le (Nat.le_of_lt (Nat.lt_of_lt_of_le h.lt h.below.size))
/-- How it is left. -/
theorem rtree_out {n : Nat} {w W : World} {g : Nat} {l : List UInt8} {b : Bool} {R : Ending → World → Prop} {tmps : Array Value} (k : Kd2) (h : RdI n w W g l b)
    (h2 : tmps.getD 4 undef = .pointer (some ⟨w.heap.size, 0, none⟩))
    (hR : ∀ W', IsR W' g l b → Below n w W' → KeepBut w W' g none → (∀ j, j ≠ w.heap.size → W'.heap[j]? = W.heap[j]?) → R (.returned (kv k)) W') :
    bodyPost Try.prog Try.f50 R .ret { tmps := tmps, defers := [] } ((W.setCell ⟨w.heap.size, 0, none⟩ (.bool k.1.f0)).setCell ⟨w.heap.size, 1, none⟩ (.slice k.2.1 k.1.f1.length k.2.2)) := by
  have hs := set1 (u := .slice k.2.1 k.1.f1.length k.2.2) (set0 (u := .bool k.1.f0) h.out)
  refine bodyPost_ret (results_cell_row rfl _ _ w.heap.size 24 _ (0, 0) _ h2 hs Try.underlying24 rfl (by kernel_rfl)) rfl ?_
  have ho : ∀ j, j ≠ w.heap.size → ((W.setCell ⟨w.heap.size, 0, none⟩ (.bool k.1.f0)).setCell ⟨w.heap.size, 1, none⟩ (.slice k.2.1 k.1.f1.length k.2.2)).heap[j]? = W.heap[j]? := fun j hj => by
    rw [set_other (by simpa using hj), set_other (by simpa using hj)]
  refine hR _ ((ho g (Nat.ne_of_lt h.lt)).trans h.at_) ((h.below.setCell (Nat.le_trans h.le (Nat.le_of_lt h.lt)) _).setCell (Nat.le_trans h.le (Nat.le_of_lt h.lt)) _) ⟨?_, fun i hi hig hn => ?_⟩ ho
  · rw [World.size_setCell, World.size_setCell]; exact h.keep.1
  · rw [ho i (Nat.ne_of_lt hi)]; exact h.keep.2 i hi hig hn
set_option maxRecDepth 100000 in
set_option maxHeartbeats 40000000 in
theorem rtree_calls : ∀ (m : Nat) (d : Int) (n g : Nat) (l : List UInt8) (b : Bool) (w : World), m ≤ 33 → d = (m : Int) - 1 → IsR w g l b → n ≤ g →
    Calls Try.prog 50 #[.pointer (some ⟨g, 0, none⟩), .int .i64 d] w fun e w' => ∃ k : Kd2, e = .returned (kv k) ∧ k.1 = (readT m l b).1.toS ∧ Ft w' (fun j => w.heap.size ≤ j) k ∧ IsR w' g (readT m l b).2.1 (readT m l b).2.2 ∧ Below n w w' ∧ KeepBut w w' g none
  | 0, d, n, g, l, b, w, hm, hd, h, hn => by
    subst hd
    have h0 : RdI n w (w.alloc (.cells #[.bool false, .slice none 0 0] 24)) g l b :=
      ⟨blk_alloc h _, (Below.refl n w).alloc (Nat.le_trans hn (Nat.le_of_lt (blk_lt h))) _, keep_alloc (KeepBut.refl w g none) _, blk_new _ _, blk_lt h, hn⟩
    have HI := Lib.hid h0
    have c0 := cell0 h0.at_
    have c1 := cell1 h0.at_
    have cf := free2 h0.at_
    have o0 := cell0 (h0.bad true).out
    have o1 := cell1 (h0.bad true).out
    have of := free2 (h0.bad true).out
    have hu24 := Try.underlying24
    have hu22 := Try.underlying22
    have hu73 := Try.underlying73
    clear h h0
    cases b
    all_goals
      go_enter Try.func50, Try.ntmps50
      go_wp2_with fail
      refine rtree_out (⟨false, []⟩, none, 0) (HI.out.bad true) rfl ?_
      intro W' h1 h2 h3 h4
      exact ⟨_, rfl, rfl, Ft.leaf _ _ _, h1, h2, h3⟩
  | m + 1, d, n, g, l, b, w, hm, hd, h, hn => by
    obtain rfl : d = (m : Int) := by omega
    clear hd
    have h0 : RdI n w (w.alloc (.cells #[.bool false, .slice none 0 0] 24)) g l b :=
      ⟨blk_alloc h _, (Below.refl n w).alloc (Nat.le_trans hn (Nat.le_of_lt (blk_lt h))) _, keep_alloc (KeepBut.refl w g none) _, blk_new _ _, blk_lt h, hn⟩
    have HI := Lib.hid h0
    have HM : Hid (m ≤ 33) := Lib.hid (by omega)
    have hu24 := Try.underlying24
    have hu22 := Try.underlying22
    have hu73 := Try.underlying73
    have hw : IntKind.i64.wrap ((m : Int) - 1) = (m : Int) - 1 := by rw [IntKind.wrap_i64]; omega
    have hlt : decide ((m : Int) < 0) = false := decide_eq_false (by omega)
    clear h h0 hm hn
    have c0 := cell0 HI.out.at_
    have c1 := cell1 HI.out.at_
    have cf := free2 HI.out.at_
    cases b
    · go_enter Try.func50, Try.ntmps50
      go_wp2_with fail
      refine (rtake_calls 49 g l false _ HI.out.at_).mono ?_
      rintro e w1 ⟨rfl, h1, h2, h3⟩
      obtain ⟨hit, r1, hr49⟩ : ∃ hit r, take1 49 l = (hit, r) := ⟨_, _, rfl⟩
      rw [hr49] at h1 ⊢
      have HI1 := Lib.hid (HI.out.call h1 h2 (h3 n HI.out.le HI.out.size))
      have HR49 := Lib.hid hr49
      clear h1 h2 h3 hr49
      clear c0 c1 cf
      have c0 := cell0 HI1.out.at_
      have c1 := cell1 HI1.out.at_
      have cf := free2 HI1.out.at_
      have o0 := cell0 HI1.out.out
      have o1 := cell1 HI1.out.out
      have of := free2 HI1.out.out
      cases hit
      · have e1 := take1_false HR49.out
        subst e1
        go_wp2_with fail
        refine (rtake_calls 48 g r1 false _ HI1.out.at_).mono ?_
        rintro e w2 ⟨rfl, h1, h2, h3⟩
        obtain ⟨hit, r2, hr48⟩ : ∃ hit r, take1 48 r1 = (hit, r) := ⟨_, _, rfl⟩
        rw [hr48] at h1 ⊢
        have HI2 := Lib.hid (HI1.out.call h1 h2 (h3 n HI1.out.le HI1.out.size))
        have HR48 := Lib.hid hr48
        clear h1 h2 h3 hr48
        clear c0 c1 cf o0 o1 of
        have c0 := cell0 HI2.out.at_
        have c1 := cell1 HI2.out.at_
        have cf := free2 HI2.out.at_
        have o0 := cell0 HI2.out.out
        have o1 := cell1 HI2.out.out
        have of := free2 HI2.out.out
        cases hit
        · have e2 := take1_false HR48.out
          subst e2
          go_wp2_with fail
          refine (rtake_calls 40 g r2 false _ HI2.out.at_).mono ?_
          rintro e w3 ⟨rfl, h1, h2, h3⟩
          obtain ⟨hit, r3, hr40⟩ : ∃ hit r, take1 40 r2 = (hit, r) := ⟨_, _, rfl⟩
          rw [hr40] at h1 ⊢
          have HI3 := Lib.hid (HI2.out.call h1 h2 (h3 n HI2.out.le HI2.out.size))
          have HR40 := Lib.hid hr40
          clear h1 h2 h3 hr40
          clear c0 c1 cf o0 o1 of
          cases hit
          · have e3 := take1_false HR40.out
            subst e3
            have c0 := cell0 HI3.out.at_
            have c1 := cell1 HI3.out.at_
            have cf := free2 HI3.out.at_
            have o0 := cell0 (HI3.out.bad true).out
            have o1 := cell1 (HI3.out.bad true).out
            have of := free2 (HI3.out.bad true).out
            go_wp2_with fail
            refine rtree_out (⟨false, []⟩, none, 0) (HI3.out.bad true) rfl ?_
            intro W' h1 h2 h3 h4
            have hT : readT (m + 1) r3 false = (.leaf false, r3, true) := by simp [readT, HR49.out, HR48.out, HR40.out]
            rw [hT]
            exact ⟨_, rfl, rfl, Ft.leaf _ _ _, h1, h2, h3⟩
          · go_wp2_with fail
            refine (rtree_calls m ((m : Int) - 1) n g r3 false _ HM.out rfl HI3.out.at_ HI3.out.le).mono ?_
            obtain ⟨ta, la, ba, hra⟩ : ∃ ta la ba, readT m r3 false = (ta, la, ba) := ⟨_, _, _, rfl⟩
            rw [hra]
            rintro e w4 ⟨ka, rfl, hka, fa, h1, h2, h3⟩
            dsimp only at hka h1
            have HI4 := Lib.hid (HI3.out.call h1 h3 h2)
            have HRA := Lib.hid hra
            have HKA := Lib.hid hka
            have FA4 : Hid (Ft w4 (fun j => w.heap.size < j) ka) := Lib.hid (fa.mono (fun j hj => Nat.lt_of_lt_of_le (Array.getElem?_eq_some_iff.1 HI3.out.out).1 hj))
            clear h1 h2 h3 hra hka fa
            have hI5 := HI4.out.step ((Below.refl _ _).alloc (Nat.le_refl _) (.cells #[.bool ka.1.f0, .slice ka.2.1 ka.1.f1.length ka.2.2] 24))
            have HI5 := Lib.hid hI5
            have G5 := Lib.hid (blk_new w4 (.cells #[.bool ka.1.f0, .slice ka.2.1 ka.1.f1.length ka.2.2] 24))
            have FA5 := Lib.hid (FA4.out.below ((Below.refl _ _).alloc (Nat.le_refl _) (.cells #[.bool ka.1.f0, .slice ka.2.1 ka.1.f1.length ka.2.2] 24)))
            have c0 := cell0 hI5.at_
            have c1 := cell1 hI5.at_
            have cf := free2 hI5.at_
            have NE4 : Hid (g ≠ w4.heap.size) := Lib.hid (Nat.ne_of_lt (Nat.lt_of_lt_of_le HI4.out.lt HI4.out.big))
            have NEW : Hid (∀ j, w.heap.size < j → j ≠ g) := Lib.hid (fun j hj => Nat.ne_of_gt (Nat.lt_trans HI4.out.lt hj))
            clear hI5
            cases ba
            case' true =>
              go_wp2_with fail
              obtain ⟨w6, hw6⟩ : ∃ W, (w4.alloc (.cells #[.bool ka.1.f0, .slice ka.2.1 ka.1.f1.length ka.2.2] 24)).setCell ⟨g, 1, none⟩ (.bool true) = W := ⟨_, rfl⟩
              rw [hw6]
              obtain ⟨ly, bd, hsa⟩ : ∃ ly bd, sepT 44 la true = (ly, bd) := ⟨_, _, rfl⟩
              have HI6 : Hid (RdI n w w6 g ly bd) := Lib.hid (by cases hsa; rw [← hw6]; exact HI5.out.bad true)
              have G6 : Hid (w6.heap[w4.heap.size]? = some (.cells #[.bool ka.1.f0, .slice ka.2.1 ka.1.f1.length ka.2.2] 24 (0, 0))) := Lib.hid (by rw [← hw6]; exact (set_other (Ne.symm NE4.out)).trans G5.out)
              have FA6 : Hid (Ft w6 (fun j => w.heap.size < j) ka) := Lib.hid (by rw [← hw6]; exact FA5.out.but ((KeepBut.refl _ g none).set_ _ _) NEW.out)
              have HSA := Lib.hid hsa
              clear hw6 hsa c0 c1 cf HI5 G5 FA5
            case' false =>
              go_wp2_with fail
              refine (rtake_calls 44 g la false _ HI5.out.at_).mono ?_
              rintro e w5 ⟨rfl, h1, h2, h3⟩
              obtain ⟨hit, r4, hr4⟩ : ∃ hit r, take1 44 la = (hit, r) := ⟨_, _, rfl⟩
              rw [hr4] at h1 ⊢
              have hI5 := HI5.out.call h1 h2 (h3 n HI5.out.le HI5.out.size)
              have HI55 := Lib.hid hI5
              have H2 := Lib.hid h2
              clear c0 c1 cf h1 h2 h3
              have c0 := cell0 hI5.at_
              have c1 := cell1 hI5.at_
              have cf := free2 hI5.at_
              clear hI5
              go_wp2_with fail
              obtain ⟨w6, hw6⟩ : ∃ W, w5.setCell ⟨g, 1, none⟩ (.bool !hit) = W := ⟨_, rfl⟩
              rw [hw6]
              obtain ⟨ly, bd, hsa⟩ : ∃ ly bd, sepT 44 la false = (ly, bd) := ⟨_, _, rfl⟩
              have HI6 : Hid (RdI n w w6 g ly bd) := Lib.hid (by simp only [sepT, hr4] at hsa; cases hsa; rw [← hw6]; exact HI55.out.bad _)
              have G6 : Hid (w6.heap[w4.heap.size]? = some (.cells #[.bool ka.1.f0, .slice ka.2.1 ka.1.f1.length ka.2.2] 24 (0, 0))) := Lib.hid (by rw [← hw6]; exact (set_other (Ne.symm NE4.out)).trans (H2.out.blk G5.out (Ne.symm NE4.out) (by simp)))
              have FA6 : Hid (Ft w6 (fun j => w.heap.size < j) ka) := Lib.hid (by rw [← hw6]; exact FA5.out.but (H2.out.set_ _ _) NEW.out)
              have HSA := Lib.hid hsa
              clear hw6 hsa hr4 c0 c1 cf HI5 G5 FA5 HI55 H2
            all_goals
              refine (rtree_calls m ((m : Int) - 1) n g ly bd _ HM.out rfl HI6.out.at_ HI6.out.le).mono ?_
              obtain ⟨tb, lb, bb, hrb⟩ : ∃ tb lb bb, readT m ly bd = (tb, lb, bb) := ⟨_, _, _, rfl⟩
              rw [hrb]
              rintro e w7 ⟨kb, rfl, hkb, fb, h1, h2, h3⟩
              dsimp only at hkb h1
              have HI7 := Lib.hid (HI6.out.call h1 h3 h2)
              have HRB := Lib.hid hrb
              have HKB := Lib.hid hkb
              have FA7 := Lib.hid (FA6.out.but h3 NEW.out)
              have LT7 : Hid (w4.heap.size < w7.heap.size) := Lib.hid (Nat.lt_of_lt_of_le (Array.getElem?_eq_some_iff.1 G6.out).1 h3.1)
              have FB7 : Hid (Ft w7 (fun j => w.heap.size < j) kb) := Lib.hid (fb.mono (fun j hj => Nat.lt_of_lt_of_le (Array.getElem?_eq_some_iff.1 HI6.out.out).1 hj))
              have G7 := Lib.hid (h3.blk G6.out (Ne.symm NE4.out) (by simp))
              clear h1 h2 h3 hrb hkb fb
              have hI8 := HI7.out.step ((Below.refl _ _).alloc (Nat.le_refl _) (.cells #[.bool kb.1.f0, .slice kb.2.1 kb.1.f1.length kb.2.2] 24))
              have HI8 := Lib.hid hI8
              have GA8 := Lib.hid (blk_alloc G7.out (.cells #[.bool kb.1.f0, .slice kb.2.1 kb.1.f1.length kb.2.2] 24))
              have GB8 := Lib.hid (blk_new w7 (.cells #[.bool kb.1.f0, .slice kb.2.1 kb.1.f1.length kb.2.2] 24))
              have FA8 := Lib.hid (FA7.out.below ((Below.refl _ _).alloc (Nat.le_refl _) (.cells #[.bool kb.1.f0, .slice kb.2.1 kb.1.f1.length kb.2.2] 24)))
              have FB8 := Lib.hid (FB7.out.below ((Below.refl _ _).alloc (Nat.le_refl _) (.cells #[.bool kb.1.f0, .slice kb.2.1 kb.1.f1.length kb.2.2] 24)))
              have LT8 : Hid ((w7.alloc (.cells #[.bool kb.1.f0, .slice kb.2.1 kb.1.f1.length kb.2.2] 24)).heap.size = w7.heap.size + 1) := Lib.hid (World.size_alloc _ _)
              have NE7 : Hid (g ≠ w7.heap.size) := Lib.hid (Nat.ne_of_lt (Nat.lt_of_lt_of_le HI7.out.lt HI7.out.big))
              have c0 := cell0 hI8.at_
              have c1 := cell1 hI8.at_
              have cf := free2 hI8.at_
              have n1 := NE4.out
              have n2 := NE7.out
              have n3 := Ne.symm NE4.out
              have n4 := Ne.symm NE7.out
              clear hI8 HI7 G7 FA7 FB7
              obtain ⟨lz, bz, hsb⟩ : ∃ lz bz, sepT 41 lb bb = (lz, bz) := ⟨_, _, rfl⟩
              have HSB := Lib.hid hsb
              cases bb
              · clear hsb
                go_wp2_with fail
                refine (rtake_calls 41 g lb false _ HI8.out.at_).mono ?_
                rintro e w9 ⟨rfl, h1, h2, h3⟩
                obtain ⟨hit, r5, hr5⟩ : ∃ hit r, take1 41 lb = (hit, r) := ⟨_, _, rfl⟩
                rw [hr5] at h1 ⊢
                have hI9 := HI8.out.call h1 h2 (h3 n HI8.out.le HI8.out.size)
                have HIX : Hid (RdI n w (w9.setCell ⟨g, 1, none⟩ (.bool !hit)) g lz bz) := Lib.hid (by have hsb := HSB.out; simp only [sepT, hr5] at hsb; cases hsb; exact hI9.bad _)
                have GA9 := h2.blk GA8.out (Ne.symm NE4.out) (by simp)
                have GB9 := h2.blk GB8.out (Ne.symm NE7.out) (by simp)
                have GAX : Hid ((w9.setCell ⟨g, 1, none⟩ (.bool !hit)).heap[w4.heap.size]? = _) := Lib.hid ((set_other (Ne.symm NE4.out)).trans GA9)
                have GBX : Hid ((w9.setCell ⟨g, 1, none⟩ (.bool !hit)).heap[w7.heap.size]? = _) := Lib.hid ((set_other (Ne.symm NE7.out)).trans GB9)
                have FAX : Hid (Ft (w9.setCell ⟨g, 1, none⟩ (.bool !hit)) (fun j => w.heap.size < j) ka) := Lib.hid (FA8.out.but (h2.set_ _ _) NEW.out)
                have FBX : Hid (Ft (w9.setCell ⟨g, 1, none⟩ (.bool !hit)) (fun j => w.heap.size < j) kb) := Lib.hid (FB8.out.but (h2.set_ _ _) NEW.out)
                have SZX : Hid ((w9.setCell ⟨g, 1, none⟩ (.bool !hit)).heap.size = w9.heap.size) := Lib.hid (World.size_setCell _ _ _)
                clear c0 c1 cf
                have a2 := cell0 GA9
                have a3 := cell1 GA9
                have b2 := cell0 GB9
                have b3 := cell1 GB9
                have c0 := cell0 hI9.at_
                have c1 := cell1 hI9.at_
                have cf := free2 hI9.at_
                have LT9 := Lib.hid h2.1
                clear h1 h2 h3 hI9 GA9 GB9 hr5
                have a0 := cell0 GAX.out
                have a1 := cell1 GAX.out
                have b0 := cell0 GBX.out
                have b1 := cell1 GBX.out
                have o0 := (fun ob => cell0 (HIX.out.step ((Below.refl _ _).alloc (Nat.le_refl _) ob)).out)
                have o1 := (fun ob => cell1 (HIX.out.step ((Below.refl _ _).alloc (Nat.le_refl _) ob)).out)
                have of := (fun ob => free2 (HIX.out.step ((Below.refl _ _).alloc (Nat.le_refl _) ob)).out)
                go_wp2_with fail
                refine rtree_out (⟨false, [ka.1, kb.1]⟩, some ⟨w9.heap.size, 0, none⟩, 2) (HIX.out.step ((Below.refl _ _).alloc (Nat.le_refl _) (.cells #[.bool ka.1.f0, .slice ka.2.1 ka.1.f1.length ka.2.2, .bool kb.1.f0, .slice kb.2.1 kb.1.f1.length kb.2.2] 24))) rfl ?_
                intro W' h1 h2 h3 h4
                have hlw : w.heap.size < w9.heap.size := by have := (Array.getElem?_eq_some_iff.1 HI8.out.out).1; have := LT9.out; omega
                have hrow : W'.heap[w9.heap.size]? = some (.cells #[.bool ka.1.f0, .slice ka.2.1 ka.1.f1.length ka.2.2, .bool kb.1.f0, .slice kb.2.1 kb.1.f1.length kb.2.2] 24 (0, 0)) := (h4 _ (Nat.ne_of_gt hlw)).trans (by rw [← SZX.out]; exact blk_new _ _)
                have hT : readT (m + 1) r2 false = (.node ta tb, lz, bz) := by simp [readT, HR49.out, HR48.out, HR40.out, HRA.out, HSA.out, HRB.out, HSB.out]
                rw [hT]
                refine ⟨_, rfl, by rw [HKA.out, HKB.out]; rfl, ?_, h1, h2, h3⟩
                have ma := ((FAX.out.below ((Below.refl _ _).alloc (Nat.le_refl _) (.cells #[.bool ka.1.f0, .slice ka.2.1 ka.1.f1.length ka.2.2, .bool kb.1.f0, .slice kb.2.1 kb.1.f1.length kb.2.2] 24))).move (W' := W') (fun j hj => h4 j (Nat.ne_of_gt hj))).mono (fun j (hj : w.heap.size < j) => Nat.le_of_lt hj)
                have mb := ((FBX.out.below ((Below.refl _ _).alloc (Nat.le_refl _) (.cells #[.bool ka.1.f0, .slice ka.2.1 ka.1.f1.length ka.2.2, .bool kb.1.f0, .slice kb.2.1 kb.1.f1.length kb.2.2] 24))).move (W' := W') (fun j hj => h4 j (Nat.ne_of_gt hj))).mono (fun j (hj : w.heap.size < j) => Nat.le_of_lt hj)
                exact Ft.two ma mb (Nat.le_of_lt hlw) false hrow
              · have HIX : Hid (RdI n w ((w7.alloc (.cells #[.bool kb.1.f0, .slice kb.2.1 kb.1.f1.length kb.2.2] 24)).setCell ⟨g, 1, none⟩ (.bool true)) g lz bz) := Lib.hid (by cases hsb; exact HI8.out.bad true)
                have GAX : Hid (((w7.alloc (.cells #[.bool kb.1.f0, .slice kb.2.1 kb.1.f1.length kb.2.2] 24)).setCell ⟨g, 1, none⟩ (.bool true)).heap[w4.heap.size]? = _) := Lib.hid ((set_other (Ne.symm NE4.out)).trans GA8.out)
                have GBX : Hid (((w7.alloc (.cells #[.bool kb.1.f0, .slice kb.2.1 kb.1.f1.length kb.2.2] 24)).setCell ⟨g, 1, none⟩ (.bool true)).heap[w7.heap.size]? = _) := Lib.hid ((set_other (Ne.symm NE7.out)).trans GB8.out)
                have FAX : Hid (Ft ((w7.alloc (.cells #[.bool kb.1.f0, .slice kb.2.1 kb.1.f1.length kb.2.2] 24)).setCell ⟨g, 1, none⟩ (.bool true)) (fun j => w.heap.size < j) ka) := Lib.hid (FA8.out.but ((KeepBut.refl _ g none).set_ _ _) NEW.out)
                have FBX : Hid (Ft ((w7.alloc (.cells #[.bool kb.1.f0, .slice kb.2.1 kb.1.f1.length kb.2.2] 24)).setCell ⟨g, 1, none⟩ (.bool true)) (fun j => w.heap.size < j) kb) := Lib.hid (FB8.out.but ((KeepBut.refl _ g none).set_ _ _) NEW.out)
                have SZX : Hid (((w7.alloc (.cells #[.bool kb.1.f0, .slice kb.2.1 kb.1.f1.length kb.2.2] 24)).setCell ⟨g, 1, none⟩ (.bool true)).heap.size = w7.heap.size + 1) := Lib.hid (by rw [World.size_setCell, World.size_alloc])
                have a2 := cell0 GA8.out
                have a3 := cell1 GA8.out
                have b2 := cell0 GB8.out
                have b3 := cell1 GB8.out
                clear hsb
                have a0 := cell0 GAX.out
                have a1 := cell1 GAX.out
                have b0 := cell0 GBX.out
                have b1 := cell1 GBX.out
                have o0 := (fun ob => cell0 (HIX.out.step ((Below.refl _ _).alloc (Nat.le_refl _) ob)).out)
                have o1 := (fun ob => cell1 (HIX.out.step ((Below.refl _ _).alloc (Nat.le_refl _) ob)).out)
                have of := (fun ob => free2 (HIX.out.step ((Below.refl _ _).alloc (Nat.le_refl _) ob)).out)
                go_wp2_with fail
                refine rtree_out (⟨false, [ka.1, kb.1]⟩, some ⟨(w7.heap.size + 1), 0, none⟩, 2) (HIX.out.step ((Below.refl _ _).alloc (Nat.le_refl _) (.cells #[.bool ka.1.f0, .slice ka.2.1 ka.1.f1.length ka.2.2, .bool kb.1.f0, .slice kb.2.1 kb.1.f1.length kb.2.2] 24))) rfl ?_
                intro W' h1 h2 h3 h4
                have hlw : w.heap.size < (w7.heap.size + 1) := by have := (Array.getElem?_eq_some_iff.1 HI8.out.out).1; have := LT8.out; omega
                have hrow : W'.heap[(w7.heap.size + 1)]? = some (.cells #[.bool ka.1.f0, .slice ka.2.1 ka.1.f1.length ka.2.2, .bool kb.1.f0, .slice kb.2.1 kb.1.f1.length kb.2.2] 24 (0, 0)) := (h4 _ (Nat.ne_of_gt hlw)).trans (by rw [← SZX.out]; exact blk_new _ _)
                have hT : readT (m + 1) r2 false = (.node ta tb, lz, bz) := by simp [readT, HR49.out, HR48.out, HR40.out, HRA.out, HSA.out, HRB.out, HSB.out]
                rw [hT]
                refine ⟨_, rfl, by rw [HKA.out, HKB.out]; rfl, ?_, h1, h2, h3⟩
                have ma := ((FAX.out.below ((Below.refl _ _).alloc (Nat.le_refl _) (.cells #[.bool ka.1.f0, .slice ka.2.1 ka.1.f1.length ka.2.2, .bool kb.1.f0, .slice kb.2.1 kb.1.f1.length kb.2.2] 24))).move (W' := W') (fun j hj => h4 j (Nat.ne_of_gt hj))).mono (fun j (hj : w.heap.size < j) => Nat.le_of_lt hj)
                have mb := ((FBX.out.below ((Below.refl _ _).alloc (Nat.le_refl _) (.cells #[.bool ka.1.f0, .slice ka.2.1 ka.1.f1.length ka.2.2, .bool kb.1.f0, .slice kb.2.1 kb.1.f1.length kb.2.2] 24))).move (W' := W') (fun j hj => h4 j (Nat.ne_of_gt hj))).mono (fun j (hj : w.heap.size < j) => Nat.le_of_lt hj)
                exact Ft.two ma mb (Nat.le_of_lt hlw) false hrow
        · go_wp2_with fail
          refine rtree_out (⟨false, []⟩, none, 0) HI2.out rfl ?_
          intro W' h1 h2 h3 h4
          have hT : readT (m + 1) r1 false = (.leaf false, r2, false) := by simp [readT, HR49.out, HR48.out]
          rw [hT]
          exact ⟨_, rfl, rfl, Ft.leaf _ _ _, h1, h2, h3⟩
      · go_wp2_with fail
        refine rtree_out (⟨true, []⟩, none, 0) HI1.out rfl ?_
        intro W' h1 h2 h3 h4
        have hT : readT (m + 1) l false = (.leaf true, r1, false) := by simp [readT, HR49.out]
        rw [hT]
        exact ⟨_, rfl, rfl, Ft.leaf _ _ _, h1, h2, h3⟩
    · have o0 := cell0 (HI.out.bad true).out
      have o1 := cell1 (HI.out.bad true).out
      have of := free2 (HI.out.bad true).out
      go_enter Try.func50, Try.ntmps50
      go_wp2_with fail
      refine rtree_out (⟨false, []⟩, none, 0) (HI.out.bad true) rfl ?_
      intro W' h1 h2 h3 h4
      exact ⟨_, rfl, rfl, Ft.leaf _ _ _, h1, h2, h3⟩
end Go.Proofs.Ytlhaofbncoijfaa.HandF
namespace Go.Proofs.Ytlhaofbncoijfaa.HandF
set_option linter.unusedVariables false
set_option linter.unusedSimpArgs false
open Go.RowKit Go.Proofs.Ytlhaofbncoijfaa.X Go.Proofs.Ytlhaofbncoijfaa.Tree Go.Proofs.Ytlhaofbncoijfaa.Blocks
open Go.Proofs.YtlhaofbncoijfaaW.PrintWords Go.Proofs.YtlhaofbncoijfaaW.PrintLast Go.Proofs.YtlhaofbncoijfaaW.PrintMore
def box24' (W : World) (g : Nat) (k : Kd2) : Prop := W.heap[g]? = some (.cells #[.bool k.1.f0, .slice k.2.1 k.1.f1.length k.2.2] 24 (0, 0))
theorem Ft.len0 {W : World} {ok : Nat → Prop} {k : Kd2} (h : Ft W ok k) : k.1.f1.length ≤ k.2.2 := h.1
/-- What Parse keeps: the out, the reader. -/
structure PaR (w W : World) (l : List UInt8) (b : Bool) : Prop where
  below : Below w.heap.size w W
  out : W.heap[w.heap.size]? = some (.cells #[.bool false, .slice none 0 0] 24 (0, 0))
  rd : IsR W (w.heap.size + 1) l b
theorem PaR.step {w W W' : World} {l : List UInt8} {b : Bool} (h : PaR w W l b) (hb : Below W.heap.size W W') : PaR w W' l b :=
  ⟨h.below.trans (hb.mono h.below.size), blk_below h.out hb, blk_below h.rd hb⟩
theorem PaR.fin {w W : World} {l : List UInt8} {b : Bool} (h : PaR w W l b) (u v : Value) : Below w.heap.size w ((W.setCell ⟨w.heap.size, 0, none⟩ u).setCell ⟨w.heap.size, 1, none⟩ v) := (h.below.setCell (Nat.le_refl _) _).setCell (Nat.le_refl _) _
theorem PaR.call {w W W' : World} {l l' : List UInt8} {b b' : Bool} (h : PaR w W l b) (h1 : IsR W' (w.heap.size + 1) l' b') (h2 : Below w.heap.size W W') (h3 : KeepBut W W' (w.heap.size + 1) none) : PaR w W' l' b' :=
  ⟨h.below.trans h2, h3.blk h.out (by omega) (by simp), h1⟩
theorem PaR.mk0 (w : World) (l : List UInt8) : PaR w ((w.alloc (.cells #[.bool false, .slice none 0 0] 24)).alloc (.cells #[.string ⟨l.toArray⟩, .bool false] 73)) l false := by
  refine ⟨((Below.refl _ _).alloc (Nat.le_refl _) _).alloc (by simp) _, blk_alloc (blk_new _ _) _, ?_⟩
  have := blk_new (w.alloc (.cells #[.bool false, .slice none 0 0] 24)) (.cells #[.string ⟨l.toArray⟩, .bool false] 73)
  rwa [World.size_alloc] at this
theorem Right17p (k : Kd2) (t : T) (w : World) (hk : k.1 = t.toS) (ok : Nat → Prop) (h : Ft w ok k) :
    Calls Try.prog 17 #[.agg #[.bool k.1.f0, .slice k.2.1 k.1.f1.length k.2.2]] w fun e w' => e = .returned (.bool (decide t.right)) ∧ Below w.heap.size w w' := by
  have := right_calls k w ⟨h.1, h.now⟩
  rwa [hk, right_T, ← hk] at this
set_option maxRecDepth 100000 in
set_option maxHeartbeats 40000000 in
theorem Parse30_bad (l : List UInt8) (w : World) (t : T) (lr : List UInt8) (bd : Bool) (hx : readT 33 l false = (t, lr, bd)) (hb : bd = true) :
    Calls Try.prog 30 #[.string ⟨l.toArray⟩] w fun e w' => ∃ k : Kd2, e = .returned (.tuple #[kv k, .int .i64 40]) ∧ k.1 = ⟨false, []⟩ ∧ Ft w' (fun j => w.heap.size ≤ j) k ∧ Below w.heap.size w w' := by
  have HX := Lib.hid hx
  clear hx
  have hu24 := Try.underlying24
  have hu22 := Try.underlying22
  have hu73 := Try.underlying73
  have hu26 := Try.underlying26
  go_enter Try.func30, Try.ntmps30
  go_wp2_with fail
  have h0 := PaR.mk0 w l
  obtain ⟨W0, hW0⟩ : ∃ W0, (w.alloc (.cells #[.bool false, .slice none 0 0] 24)).alloc (.cells #[.string ⟨l.toArray⟩, .bool false] 73) = W0 := ⟨_, rfl⟩
  rw [hW0] at h0 ⊢
  have HI := Lib.hid h0
  clear h0 hW0
  refine (rtree_calls 33 32 w.heap.size (w.heap.size + 1) l false W0 (Nat.le_refl _) rfl HI.out.rd (Nat.le_succ _)).mono ?_
  rw [HX.out]
  rintro e w1 ⟨k, rfl, hk, fk, h1, h2, h3⟩
  dsimp only at hk h1
  have HK := Lib.hid hk
  have HI1 := Lib.hid (HI.out.call h1 h2 h3)
  have FK : Hid (Ft w1 (fun j => w.heap.size < j) k) := Lib.hid (fk.mono (fun j hj => Nat.lt_of_lt_of_le (Array.getElem?_eq_some_iff.1 HI.out.out).1 hj))
  clear hk fk h1 h2 h3
  have hb2 : Below w1.heap.size w1 (w1.alloc (.cells #[.bool k.1.f0, .slice k.2.1 k.1.f1.length k.2.2] 24)) := (Below.refl _ _).alloc (Nat.le_refl _) _
  have g2 : box24' (w1.alloc (.cells #[.bool k.1.f0, .slice k.2.1 k.1.f1.length k.2.2] 24)) w1.heap.size k := blk_new _ _
  go_wp2_with fail
  obtain ⟨W2, hW2⟩ : ∃ W, w1.alloc (.cells #[.bool k.1.f0, .slice k.2.1 k.1.f1.length k.2.2] 24) = W := ⟨_, rfl⟩
  rw [hW2] at hb2 g2 ⊢
  have HI2 := Lib.hid (HI1.out.step hb2)
  have FK2 := Lib.hid (FK.out.below hb2)
  have G2 := Lib.hid g2
  have ID2 : Hid (PaR w W2.drew lr bd) := Lib.hid (HI2.out.step (W' := W2.drew) (Below.refl _ _).drew)
  have GD2 : Hid (box24' W2.drew w1.heap.size k) := G2
  have FD2 : Hid (Ft W2.drew (fun j => w.heap.size < j) k) := Lib.hid (FK2.out.below (W' := W2.drew) (Below.refl _ _).drew)
  clear hb2 g2 hW2
  subst hb
  have G9 := GD2
  have c0 : W2.drew.cell? ⟨w.heap.size + 1, 0, none⟩ = _ := cell0 ID2.out.rd
  have c1 : W2.drew.cell? ⟨w.heap.size + 1, 1, none⟩ = _ := cell1 ID2.out.rd
  have c2 : W2.drew.cell? ⟨w1.heap.size, 0, none⟩ = _ := cell0 GD2.out
  have c3 : W2.drew.cell? ⟨w1.heap.size, 1, none⟩ = _ := cell1 GD2.out
  have d0 := cell0 HI2.out.rd
  have d1 := cell1 HI2.out.rd
  have d2 := cell0 G2.out
  have d3 := cell1 G2.out
  first | (go_region_with (first | fail)) | fail
  all_goals clear c0 c1 c2 c3 d0 d1 d2 d3
  all_goals
    have n0 := cell0 HI2.out.out
    have m0 := cell1 HI2.out.out
    have f0 := free2 HI2.out.out
    have q0 := cell0 G9.out
    have q1 := cell1 G9.out
    go_wp2_with fail
    refine bodyPost_ret (results_ct rfl _ _ w.heap.size 24 _ (0, 0) _ rfl (set1 (set0 HI2.out.out)) hu24 rfl (by kernel_rfl)) rfl ?_
    exact ⟨(⟨false, []⟩, none, 0), rfl, rfl, Ft.leaf _ _ _, (HI2.out.fin _ _).drew⟩
set_option maxRecDepth 100000 in
set_option maxHeartbeats 40000000 in
theorem Parse30_rest (l : List UInt8) (w : World) (t : T) (lr : List UInt8) (bd : Bool) (hx : readT 33 l false = (t, lr, bd)) (hb : bd = false) (hl : lr ≠ []) :
    Calls Try.prog 30 #[.string ⟨l.toArray⟩] w fun e w' => ∃ k : Kd2, e = .returned (.tuple #[kv k, .int .i64 40]) ∧ k.1 = ⟨false, []⟩ ∧ Ft w' (fun j => w.heap.size ≤ j) k ∧ Below w.heap.size w w' := by
  have HX := Lib.hid hx
  clear hx
  have hu24 := Try.underlying24
  have hu22 := Try.underlying22
  have hu73 := Try.underlying73
  have hu26 := Try.underlying26
  go_enter Try.func30, Try.ntmps30
  go_wp2_with fail
  have h0 := PaR.mk0 w l
  obtain ⟨W0, hW0⟩ : ∃ W0, (w.alloc (.cells #[.bool false, .slice none 0 0] 24)).alloc (.cells #[.string ⟨l.toArray⟩, .bool false] 73) = W0 := ⟨_, rfl⟩
  rw [hW0] at h0 ⊢
  have HI := Lib.hid h0
  clear h0 hW0
  refine (rtree_calls 33 32 w.heap.size (w.heap.size + 1) l false W0 (Nat.le_refl _) rfl HI.out.rd (Nat.le_succ _)).mono ?_
  rw [HX.out]
  rintro e w1 ⟨k, rfl, hk, fk, h1, h2, h3⟩
  dsimp only at hk h1
  have HK := Lib.hid hk
  have HI1 := Lib.hid (HI.out.call h1 h2 h3)
  have FK : Hid (Ft w1 (fun j => w.heap.size < j) k) := Lib.hid (fk.mono (fun j hj => Nat.lt_of_lt_of_le (Array.getElem?_eq_some_iff.1 HI.out.out).1 hj))
  clear hk fk h1 h2 h3
  have hb2 : Below w1.heap.size w1 (w1.alloc (.cells #[.bool k.1.f0, .slice k.2.1 k.1.f1.length k.2.2] 24)) := (Below.refl _ _).alloc (Nat.le_refl _) _
  have g2 : box24' (w1.alloc (.cells #[.bool k.1.f0, .slice k.2.1 k.1.f1.length k.2.2] 24)) w1.heap.size k := blk_new _ _
  go_wp2_with fail
  obtain ⟨W2, hW2⟩ : ∃ W, w1.alloc (.cells #[.bool k.1.f0, .slice k.2.1 k.1.f1.length k.2.2] 24) = W := ⟨_, rfl⟩
  rw [hW2] at hb2 g2 ⊢
  have HI2 := Lib.hid (HI1.out.step hb2)
  have FK2 := Lib.hid (FK.out.below hb2)
  have G2 := Lib.hid g2
  have ID2 : Hid (PaR w W2.drew lr bd) := Lib.hid (HI2.out.step (W' := W2.drew) (Below.refl _ _).drew)
  have GD2 : Hid (box24' W2.drew w1.heap.size k) := G2
  have FD2 : Hid (Ft W2.drew (fun j => w.heap.size < j) k) := Lib.hid (FK2.out.below (W' := W2.drew) (Below.refl _ _).drew)
  clear hb2 g2 hW2
  subst hb
  have G9 := GD2
  have hne : ((⟨lr.toArray⟩ : ByteArray).toList == (⟨#[]⟩ : ByteArray).toList) = false := by rw [Lib.toList_data, Lib.toList_data]; simpa using hl
  have c0 : W2.drew.cell? ⟨w.heap.size + 1, 0, none⟩ = _ := cell0 ID2.out.rd
  have c1 : W2.drew.cell? ⟨w.heap.size + 1, 1, none⟩ = _ := cell1 ID2.out.rd
  have c2 : W2.drew.cell? ⟨w1.heap.size, 0, none⟩ = _ := cell0 GD2.out
  have c3 : W2.drew.cell? ⟨w1.heap.size, 1, none⟩ = _ := cell1 GD2.out
  have d0 := cell0 HI2.out.rd
  have d1 := cell1 HI2.out.rd
  have d2 := cell0 G2.out
  have d3 := cell1 G2.out
  first | (go_region_with (first | fail)) | fail
  all_goals clear c0 c1 c2 c3 d0 d1 d2 d3
  all_goals
    have n0 := cell0 HI2.out.out
    have m0 := cell1 HI2.out.out
    have f0 := free2 HI2.out.out
    have q0 := cell0 G9.out
    have q1 := cell1 G9.out
    go_wp2_with fail
    refine bodyPost_ret (results_ct rfl _ _ w.heap.size 24 _ (0, 0) _ rfl (set1 (set0 HI2.out.out)) hu24 rfl (by kernel_rfl)) rfl ?_
    exact ⟨(⟨false, []⟩, none, 0), rfl, rfl, Ft.leaf _ _ _, (HI2.out.fin _ _).drew⟩
set_option maxRecDepth 100000 in
set_option maxHeartbeats 40000000 in
theorem Parse30_wrong (l : List UInt8) (w : World) (t : T) (lr : List UInt8) (bd : Bool) (hx : readT 33 l false = (t, lr, bd)) (hb : bd = false) (hl : lr = []) (hr : ¬ t.right) :
    Calls Try.prog 30 #[.string ⟨l.toArray⟩] w fun e w' => ∃ k : Kd2, e = .returned (.tuple #[kv k, .int .i64 40]) ∧ k.1 = ⟨false, []⟩ ∧ Ft w' (fun j => w.heap.size ≤ j) k ∧ Below w.heap.size w w' := by
  have HX := Lib.hid hx
  clear hx
  have hu24 := Try.underlying24
  have hu22 := Try.underlying22
  have hu73 := Try.underlying73
  have hu26 := Try.underlying26
  go_enter Try.func30, Try.ntmps30
  go_wp2_with fail
  have h0 := PaR.mk0 w l
  obtain ⟨W0, hW0⟩ : ∃ W0, (w.alloc (.cells #[.bool false, .slice none 0 0] 24)).alloc (.cells #[.string ⟨l.toArray⟩, .bool false] 73) = W0 := ⟨_, rfl⟩
  rw [hW0] at h0 ⊢
  have HI := Lib.hid h0
  clear h0 hW0
  refine (rtree_calls 33 32 w.heap.size (w.heap.size + 1) l false W0 (Nat.le_refl _) rfl HI.out.rd (Nat.le_succ _)).mono ?_
  rw [HX.out]
  rintro e w1 ⟨k, rfl, hk, fk, h1, h2, h3⟩
  dsimp only at hk h1
  have HK := Lib.hid hk
  have HI1 := Lib.hid (HI.out.call h1 h2 h3)
  have FK : Hid (Ft w1 (fun j => w.heap.size < j) k) := Lib.hid (fk.mono (fun j hj => Nat.lt_of_lt_of_le (Array.getElem?_eq_some_iff.1 HI.out.out).1 hj))
  clear hk fk h1 h2 h3
  have hb2 : Below w1.heap.size w1 (w1.alloc (.cells #[.bool k.1.f0, .slice k.2.1 k.1.f1.length k.2.2] 24)) := (Below.refl _ _).alloc (Nat.le_refl _) _
  have g2 : box24' (w1.alloc (.cells #[.bool k.1.f0, .slice k.2.1 k.1.f1.length k.2.2] 24)) w1.heap.size k := blk_new _ _
  go_wp2_with fail
  obtain ⟨W2, hW2⟩ : ∃ W, w1.alloc (.cells #[.bool k.1.f0, .slice k.2.1 k.1.f1.length k.2.2] 24) = W := ⟨_, rfl⟩
  rw [hW2] at hb2 g2 ⊢
  have HI2 := Lib.hid (HI1.out.step hb2)
  have FK2 := Lib.hid (FK.out.below hb2)
  have G2 := Lib.hid g2
  have ID2 : Hid (PaR w W2.drew lr bd) := Lib.hid (HI2.out.step (W' := W2.drew) (Below.refl _ _).drew)
  have GD2 : Hid (box24' W2.drew w1.heap.size k) := G2
  have FD2 : Hid (Ft W2.drew (fun j => w.heap.size < j) k) := Lib.hid (FK2.out.below (W' := W2.drew) (Below.refl _ _).drew)
  clear hb2 g2 hW2
  subst hb hl
  have hne : ((⟨([] : List UInt8).toArray⟩ : ByteArray).toList == (⟨#[]⟩ : ByteArray).toList) = true := beq_self_eq_true _
  have RT : Hid (decide t.right = false) := Lib.hid (decide_eq_false hr)
  have c0 : W2.drew.cell? ⟨w.heap.size + 1, 0, none⟩ = _ := cell0 ID2.out.rd
  have c1 : W2.drew.cell? ⟨w.heap.size + 1, 1, none⟩ = _ := cell1 ID2.out.rd
  have c2 : W2.drew.cell? ⟨w1.heap.size, 0, none⟩ = _ := cell0 GD2.out
  have c3 : W2.drew.cell? ⟨w1.heap.size, 1, none⟩ = _ := cell1 GD2.out
  have d0 := cell0 HI2.out.rd
  have d1 := cell1 HI2.out.rd
  have d2 := cell0 G2.out
  have d3 := cell1 G2.out
  first | (go_region_with (first
    | (go_at_call 17; (with_reducible refine (Right17p k t _ HK.out _ FD2.out).mono ?_); rintro e w5 ⟨rfl, hb5⟩; have HI5 := Lib.hid (ID2.out.step hb5); have G9 : Hid (box24' w5 w1.heap.size k) := Lib.hid (blk_below GD2.out hb5); rw [RT.out]; clear hb5))) | fail
  all_goals clear c0 c1 c2 c3 d0 d1 d2 d3
  all_goals
    have n0 := cell0 HI5.out.out
    have m0 := cell1 HI5.out.out
    have f0 := free2 HI5.out.out
    have q0 := cell0 G9.out
    have q1 := cell1 G9.out
    go_wp2_with fail
    refine bodyPost_ret (results_ct rfl _ _ w.heap.size 24 _ (0, 0) _ rfl (set1 (set0 HI5.out.out)) hu24 rfl (by kernel_rfl)) rfl ?_
    exact ⟨(⟨false, []⟩, none, 0), rfl, rfl, Ft.leaf _ _ _, HI5.out.fin _ _⟩
theorem PaS {w w1 W : World} {lr : List UInt8} {bd : Bool} {k : Kd2} (h : PaR w W lr bd) (g : box24' W w1.heap.size k) : W.cell? ⟨w.heap.size + 1, 0, none⟩ = some (.string ⟨lr.toArray⟩) ∧ W.cell? ⟨w.heap.size + 1, 1, none⟩ = some (.bool bd) ∧ W.cell? ⟨w1.heap.size, 0, none⟩ = some (.bool k.1.f0) ∧ W.cell? ⟨w1.heap.size, 1, none⟩ = some (.slice k.2.1 k.1.f1.length k.2.2) :=
  ⟨cell0 h.rd, cell1 h.rd, cell0 g, cell1 g⟩
set_option maxRecDepth 100000 in
set_option maxHeartbeats 40000000 in
theorem Parse30_other (l : List UInt8) (w : World) (t : T) (lr : List UInt8) (bd : Bool) (hx : readT 33 l false = (t, lr, bd)) (hb : bd = false) (hl : lr = []) (hr : t.right) (he : T.eqb t t.norm = false) :
    Calls Try.prog 30 #[.string ⟨l.toArray⟩] w fun e w' => ∃ k : Kd2, e = .returned (.tuple #[kv k, .int .i64 40]) ∧ k.1 = ⟨false, []⟩ ∧ Ft w' (fun j => w.heap.size ≤ j) k ∧ Below w.heap.size w w' := by
  have HX := Lib.hid hx
  clear hx
  have hu24 := Try.underlying24
  have hu22 := Try.underlying22
  have hu73 := Try.underlying73
  have hu26 := Try.underlying26
  go_enter Try.func30, Try.ntmps30
  go_wp2_with fail
  have h0 := PaR.mk0 w l
  obtain ⟨W0, hW0⟩ : ∃ W0, (w.alloc (.cells #[.bool false, .slice none 0 0] 24)).alloc (.cells #[.string ⟨l.toArray⟩, .bool false] 73) = W0 := ⟨_, rfl⟩
  rw [hW0] at h0 ⊢
  have HI := Lib.hid h0
  clear h0 hW0
  refine (rtree_calls 33 32 w.heap.size (w.heap.size + 1) l false W0 (Nat.le_refl _) rfl HI.out.rd (Nat.le_succ _)).mono ?_
  rw [HX.out]
  rintro e w1 ⟨k, rfl, hk, fk, h1, h2, h3⟩
  dsimp only at hk h1
  have HK := Lib.hid hk
  have HI1 := Lib.hid (HI.out.call h1 h2 h3)
  have FK : Hid (Ft w1 (fun j => w.heap.size < j) k) := Lib.hid (fk.mono (fun j hj => Nat.lt_of_lt_of_le (Array.getElem?_eq_some_iff.1 HI.out.out).1 hj))
  clear hk fk h1 h2 h3
  have hb2 : Below w1.heap.size w1 (w1.alloc (.cells #[.bool k.1.f0, .slice k.2.1 k.1.f1.length k.2.2] 24)) := (Below.refl _ _).alloc (Nat.le_refl _) _
  have g2 : box24' (w1.alloc (.cells #[.bool k.1.f0, .slice k.2.1 k.1.f1.length k.2.2] 24)) w1.heap.size k := blk_new _ _
  go_wp2_with fail
  obtain ⟨W2, hW2⟩ : ∃ W, w1.alloc (.cells #[.bool k.1.f0, .slice k.2.1 k.1.f1.length k.2.2] 24) = W := ⟨_, rfl⟩
  rw [hW2] at hb2 g2 ⊢
  have HI2 := Lib.hid (HI1.out.step hb2)
  have FK2 := Lib.hid (FK.out.below hb2)
  have G2 := Lib.hid g2
  have ID2 : Hid (PaR w W2.drew lr bd) := Lib.hid (HI2.out.step (W' := W2.drew) (Below.refl _ _).drew)
  have GD2 : Hid (box24' W2.drew w1.heap.size k) := G2
  have FD2 : Hid (Ft W2.drew (fun j => w.heap.size < j) k) := Lib.hid (FK2.out.below (W' := W2.drew) (Below.refl _ _).drew)
  clear hb2 g2 hW2
  subst hb hl
  have hne : ((⟨([] : List UInt8).toArray⟩ : ByteArray).toList == (⟨#[]⟩ : ByteArray).toList) = true := beq_self_eq_true _
  have RT : Hid (decide t.right = true) := Lib.hid (decide_eq_true hr)
  have HE := Lib.hid he
  go_region_held3 (fun W => W.cell? ⟨w.heap.size + 1, 0, none⟩ = some (.string ⟨([] : List UInt8).toArray⟩) ∧ W.cell? ⟨w.heap.size + 1, 1, none⟩ = some (.bool false) ∧ W.cell? ⟨w1.heap.size, 0, none⟩ = some (.bool k.1.f0) ∧ W.cell? ⟨w1.heap.size, 1, none⟩ = some (.slice k.2.1 k.1.f1.length k.2.2))
    (with_reducible first | exact PaS ID2.out GD2.out | exact PaS HI2.out G2.out | exact PaS HI5.out G5.out | exact PaS HI6.out G6.out | exact PaS HI7.out G9.out)
    (first
      | (go_at_call 46; (with_reducible refine (equal_calls t t.norm k nk _ (fun _ => True) HK.out HNK.out F6T.out FN6.out).mono ?_); rintro e w7 ⟨rfl, hb7⟩; have HI7 := Lib.hid (HI6.out.step hb7); have G9 : Hid (box24' w7 w1.heap.size k) := Lib.hid (blk_below G6.out hb7); have F9 := Lib.hid (F6.out.below hb7); rw [HE.out]; clear hb7)
      | (go_at_call 36; (with_reducible refine (norm_calls k t _ HK.out (Ft.len0 F5.out) F5.out.now).mono ?_); rintro e w6 ⟨nk, rfl, hnk, fnk, hb6⟩; have HI6 := Lib.hid (HI5.out.step hb6); have G6 : Hid (box24' w6 w1.heap.size k) := Lib.hid (blk_below G5.out hb6); have F6 := Lib.hid (F5.out.below hb6); have F6T : Hid (Ft w6 (fun _ => True) k) := Lib.hid (F6.out.mono (fun _ _ => trivial)); have HNK := Lib.hid hnk; have FN6 : Hid (Ft w6 (fun _ => True) nk) := Lib.hid (fnk.mono (fun _ _ => trivial)); clear hnk fnk hb6)
      | (go_at_call 17; (with_reducible refine (Right17p k t _ HK.out _ FD2.out).mono ?_); rintro e w5 ⟨rfl, hb5⟩; have HI5 := Lib.hid (ID2.out.step hb5); have G5 : Hid (box24' w5 w1.heap.size k) := Lib.hid (blk_below GD2.out hb5); have F5 := Lib.hid (FD2.out.below hb5); rw [RT.out]; clear hb5))
  all_goals
    rename_i hHeld
    clear hHeld
  all_goals
    have n0 := cell0 HI7.out.out
    have m0 := cell1 HI7.out.out
    have f0 := free2 HI7.out.out
    have q0 := cell0 G9.out
    have q1 := cell1 G9.out
    go_wp2_with fail
    refine bodyPost_ret (results_ct rfl _ _ w.heap.size 24 _ (0, 0) _ rfl (set1 (set0 HI7.out.out)) hu24 rfl (by kernel_rfl)) rfl ?_
    exact ⟨(⟨false, []⟩, none, 0), rfl, rfl, Ft.leaf _ _ _, HI7.out.fin _ _⟩
set_option maxRecDepth 100000 in
set_option maxHeartbeats 40000000 in
theorem Parse30_good (l : List UInt8) (w : World) (t : T) (lr : List UInt8) (bd : Bool) (hx : readT 33 l false = (t, lr, bd)) (hb : bd = false) (hl : lr = []) (hr : t.right) (he : T.eqb t t.norm = true) :
    Calls Try.prog 30 #[.string ⟨l.toArray⟩] w fun e w' => ∃ k : Kd2, e = .returned (.tuple #[kv k, .int .i64 0]) ∧ k.1 = t.toS ∧ Ft w' (fun j => w.heap.size ≤ j) k ∧ Below w.heap.size w w' := by
  have HX := Lib.hid hx
  clear hx
  have hu24 := Try.underlying24
  have hu22 := Try.underlying22
  have hu73 := Try.underlying73
  have hu26 := Try.underlying26
  go_enter Try.func30, Try.ntmps30
  go_wp2_with fail
  have h0 := PaR.mk0 w l
  obtain ⟨W0, hW0⟩ : ∃ W0, (w.alloc (.cells #[.bool false, .slice none 0 0] 24)).alloc (.cells #[.string ⟨l.toArray⟩, .bool false] 73) = W0 := ⟨_, rfl⟩
  rw [hW0] at h0 ⊢
  have HI := Lib.hid h0
  clear h0 hW0
  refine (rtree_calls 33 32 w.heap.size (w.heap.size + 1) l false W0 (Nat.le_refl _) rfl HI.out.rd (Nat.le_succ _)).mono ?_
  rw [HX.out]
  rintro e w1 ⟨k, rfl, hk, fk, h1, h2, h3⟩
  dsimp only at hk h1
  have HK := Lib.hid hk
  have HI1 := Lib.hid (HI.out.call h1 h2 h3)
  have FK : Hid (Ft w1 (fun j => w.heap.size < j) k) := Lib.hid (fk.mono (fun j hj => Nat.lt_of_lt_of_le (Array.getElem?_eq_some_iff.1 HI.out.out).1 hj))
  clear hk fk h1 h2 h3
  have hb2 : Below w1.heap.size w1 (w1.alloc (.cells #[.bool k.1.f0, .slice k.2.1 k.1.f1.length k.2.2] 24)) := (Below.refl _ _).alloc (Nat.le_refl _) _
  have g2 : box24' (w1.alloc (.cells #[.bool k.1.f0, .slice k.2.1 k.1.f1.length k.2.2] 24)) w1.heap.size k := blk_new _ _
  go_wp2_with fail
  obtain ⟨W2, hW2⟩ : ∃ W, w1.alloc (.cells #[.bool k.1.f0, .slice k.2.1 k.1.f1.length k.2.2] 24) = W := ⟨_, rfl⟩
  rw [hW2] at hb2 g2 ⊢
  have HI2 := Lib.hid (HI1.out.step hb2)
  have FK2 := Lib.hid (FK.out.below hb2)
  have G2 := Lib.hid g2
  have ID2 : Hid (PaR w W2.drew lr bd) := Lib.hid (HI2.out.step (W' := W2.drew) (Below.refl _ _).drew)
  have GD2 : Hid (box24' W2.drew w1.heap.size k) := G2
  have FD2 : Hid (Ft W2.drew (fun j => w.heap.size < j) k) := Lib.hid (FK2.out.below (W' := W2.drew) (Below.refl _ _).drew)
  clear hb2 g2 hW2
  subst hb hl
  have hne : ((⟨([] : List UInt8).toArray⟩ : ByteArray).toList == (⟨#[]⟩ : ByteArray).toList) = true := beq_self_eq_true _
  have RT : Hid (decide t.right = true) := Lib.hid (decide_eq_true hr)
  have HE := Lib.hid he
  go_region_held3 (fun W => W.cell? ⟨w.heap.size + 1, 0, none⟩ = some (.string ⟨([] : List UInt8).toArray⟩) ∧ W.cell? ⟨w.heap.size + 1, 1, none⟩ = some (.bool false) ∧ W.cell? ⟨w1.heap.size, 0, none⟩ = some (.bool k.1.f0) ∧ W.cell? ⟨w1.heap.size, 1, none⟩ = some (.slice k.2.1 k.1.f1.length k.2.2))
    (with_reducible first | exact PaS ID2.out GD2.out | exact PaS HI2.out G2.out | exact PaS HI5.out G5.out | exact PaS HI6.out G6.out | exact PaS HI7.out G9.out)
    (first
      | (go_at_call 46; (with_reducible refine (equal_calls t t.norm k nk _ (fun _ => True) HK.out HNK.out F6T.out FN6.out).mono ?_); rintro e w7 ⟨rfl, hb7⟩; have HI7 := Lib.hid (HI6.out.step hb7); have G9 : Hid (box24' w7 w1.heap.size k) := Lib.hid (blk_below G6.out hb7); have F9 := Lib.hid (F6.out.below hb7); rw [HE.out]; clear hb7)
      | (go_at_call 36; (with_reducible refine (norm_calls k t _ HK.out (Ft.len0 F5.out) F5.out.now).mono ?_); rintro e w6 ⟨nk, rfl, hnk, fnk, hb6⟩; have HI6 := Lib.hid (HI5.out.step hb6); have G6 : Hid (box24' w6 w1.heap.size k) := Lib.hid (blk_below G5.out hb6); have F6 := Lib.hid (F5.out.below hb6); have F6T : Hid (Ft w6 (fun _ => True) k) := Lib.hid (F6.out.mono (fun _ _ => trivial)); have HNK := Lib.hid hnk; have FN6 : Hid (Ft w6 (fun _ => True) nk) := Lib.hid (fnk.mono (fun _ _ => trivial)); clear hnk fnk hb6)
      | (go_at_call 17; (with_reducible refine (Right17p k t _ HK.out _ FD2.out).mono ?_); rintro e w5 ⟨rfl, hb5⟩; have HI5 := Lib.hid (ID2.out.step hb5); have G5 : Hid (box24' w5 w1.heap.size k) := Lib.hid (blk_below GD2.out hb5); have F5 := Lib.hid (FD2.out.below hb5); rw [RT.out]; clear hb5))
  all_goals
    rename_i hHeld
    clear hHeld
  all_goals
    have n0 := cell0 HI7.out.out
    have m0 := cell1 HI7.out.out
    have f0 := free2 HI7.out.out
    have q0 := cell0 G9.out
    have q1 := cell1 G9.out
    go_wp2_with fail
    refine bodyPost_ret (results_ct rfl _ _ w.heap.size 24 _ (0, 0) _ rfl (set1 (set0 HI7.out.out)) hu24 rfl (by kernel_rfl)) rfl ?_
    refine ⟨k, rfl, HK.out, (F9.out.move (fun j (hj : w.heap.size < j) => ?_)).mono (fun j (hj : w.heap.size < j) => Nat.le_of_lt hj), HI7.out.fin _ _⟩
    rw [set_other (by simpa using Nat.ne_of_gt hj), set_other (by simpa using Nat.ne_of_gt hj)]
/-- What Parse hands back. -/
def parseOf (x : T × List UInt8 × Bool) : T × Int := if x.2.2 = false ∧ x.2.1 = [] ∧ x.1.right ∧ T.eqb x.1 x.1.norm = true then (x.1, 0) else (.leaf false, 40)
def ParseT (l : List UInt8) : T × Int := parseOf (readT 33 l false)
theorem parseOf_eq (t : T) (lr : List UInt8) (bd : Bool) : parseOf (t, lr, bd) = if bd = false ∧ lr = [] ∧ t.right ∧ T.eqb t t.norm = true then (t, 0) else (.leaf false, 40) := rfl
theorem Parse30 (l : List UInt8) (w : World) :
    Calls Try.prog 30 #[.string ⟨l.toArray⟩] w fun e w' => ∃ k : Kd2, e = .returned (.tuple #[kv k, .int .i64 (ParseT l).2]) ∧ k.1 = (ParseT l).1.toS ∧ Ft w' (fun j => w.heap.size ≤ j) k ∧ Below w.heap.size w w' := by
  obtain ⟨x, hx⟩ : ∃ x, readT 33 l false = x := ⟨_, rfl⟩
  obtain ⟨t, lr, bd⟩ := x
  have hP : ParseT l = if bd = false ∧ lr = [] ∧ t.right ∧ T.eqb t t.norm = true then (t, 0) else (.leaf false, 40) := (congrArg parseOf hx).trans (parseOf_eq t lr bd)
  rw [hP]
  by_cases hb : bd = true
  · rw [if_neg (by rw [hb]; simp)]
    exact Parse30_bad l w t lr bd hx hb
  · have hb : bd = false := by simpa using hb
    by_cases hl : lr = []
    · by_cases hr : t.right
      · cases he : T.eqb t t.norm
        · rw [if_neg (by simp)]
          exact Parse30_other l w t lr bd hx hb hl hr he
        · rw [if_pos ⟨hb, hl, hr, rfl⟩]
          exact Parse30_good l w t lr bd hx hb hl hr he
      · rw [if_neg (fun h => hr h.2.2.1)]
        exact Parse30_wrong l w t lr bd hx hb hl hr
    · rw [if_neg (fun h => hl h.2.1)]
      exact Parse30_rest l w t lr bd hx hb hl
end Go.Proofs.Ytlhaofbncoijfaa.HandF
namespace Go.Proofs.Ytlhaofbncoijfaa.Tree
set_option linter.unusedVariables false
set_option linter.unusedSimpArgs false
open Go.Proofs.Ytlhaofbncoijfaa.X
/-- The tree that stands at the beginning, and what is left; n: the depth and one. -/
def readU : Nat → List UInt8 → Option (T × List UInt8)
  | 0, _ => none
  | n + 1, [] => none
  | n + 1, c :: r =>
    if c = 48 then some (.leaf false, r)
    else if c = 49 then some (.leaf true, r)
    else if c = 40 then
      (match readU n r with
      | none => none
      | some x => match x.2 with
        | [] => none
        | c2 :: r2 => if c2 = 44 then
            (match readU n r2 with
            | none => none
            | some y => match y.2 with
              | [] => none
              | c3 :: r3 => if c3 = 41 then some (.node x.1 y.1, r3) else none)
          else none)
    else none
theorem readT_bad (n : Nat) (l : List UInt8) : (readT n l true).2.2 = true := by
  cases n with
  | zero => rfl
  | succ n => simp [readT]
theorem readU_text : ∀ (n : Nat) {l r : List UInt8} {t : T}, readU n l = some (t, r) → l = t.text ++ r
  | 0, l, r, t, h => by simp [readU] at h
  | n + 1, [], r, t, h => by simp [readU] at h
  | n + 1, c :: q, r, t, h => by
    rw [readU] at h
    by_cases h0 : c = 48
    · rw [if_pos h0] at h
      simp only [Option.some.injEq, Prod.mk.injEq] at h
      obtain ⟨rfl, rfl⟩ := h
      subst h0
      rfl
    rw [if_neg h0] at h
    by_cases h1 : c = 49
    · rw [if_pos h1] at h
      simp only [Option.some.injEq, Prod.mk.injEq] at h
      obtain ⟨rfl, rfl⟩ := h
      subst h1
      rfl
    rw [if_neg h1] at h
    by_cases h2 : c = 40
    · rw [if_pos h2] at h
      subst h2
      cases hx : readU n q with
      | none => rw [hx] at h; simp at h
      | some x =>
        obtain ⟨a, ra⟩ := x
        rw [hx] at h
        dsimp only at h
        have ea := readU_text n hx
        cases ra with
        | nil => simp at h
        | cons c2 r2 =>
          dsimp only at h
          by_cases h3 : c2 = 44
          · rw [if_pos h3] at h
            subst h3
            cases hy : readU n r2 with
            | none => rw [hy] at h; simp at h
            | some y =>
              obtain ⟨b, rb⟩ := y
              rw [hy] at h
              dsimp only at h
              have eb := readU_text n hy
              cases rb with
              | nil => simp at h
              | cons c3 r3 =>
                dsimp only at h
                by_cases h4 : c3 = 41
                · rw [if_pos h4] at h
                  subst h4
                  simp only [Option.some.injEq, Prod.mk.injEq] at h
                  obtain ⟨rfl, rfl⟩ := h
                  rw [ea, eb]
                  simp [T.text]
                · rw [if_neg h4] at h; simp at h
          · rw [if_neg h3] at h; simp at h
    · rw [if_neg h2] at h; simp at h
theorem sepT_bad (c : UInt8) (l : List UInt8) : sepT c l true = (l, true) := rfl
theorem readT_false (n : Nat) (l : List UInt8) : readT (n + 1) l false =
    if (take1 49 l).1 = true then (.leaf true, (take1 49 l).2, false)
    else if (take1 48 l).1 = true then (.leaf false, (take1 48 l).2, false)
    else if (take1 40 l).1 = true then
      (.node (readT n (take1 40 l).2 false).1 (readT n (sepT 44 (readT n (take1 40 l).2 false).2.1 (readT n (take1 40 l).2 false).2.2).1 (sepT 44 (readT n (take1 40 l).2 false).2.1 (readT n (take1 40 l).2 false).2.2).2).1,
       sepT 41 (readT n (sepT 44 (readT n (take1 40 l).2 false).2.1 (readT n (take1 40 l).2 false).2.2).1 (sepT 44 (readT n (take1 40 l).2 false).2.1 (readT n (take1 40 l).2 false).2.2).2).2.1 (readT n (sepT 44 (readT n (take1 40 l).2 false).2.1 (readT n (take1 40 l).2 false).2.2).1 (sepT 44 (readT n (take1 40 l).2 false).2.1 (readT n (take1 40 l).2 false).2.2).2).2.2)
    else (.leaf false, l, true) := by
  simp only [readT, Bool.false_eq_true, if_false]
theorem readT_U : ∀ (n : Nat) (l : List UInt8), (∀ t r, readU n l = some (t, r) → readT n l false = (t, r, false)) ∧ (readU n l = none → (readT n l false).2.2 = true)
  | 0, l => ⟨fun t r h => by simp [readU] at h, fun _ => rfl⟩
  | n + 1, [] => ⟨fun t r h => by simp [readU] at h, fun _ => by simp [readT, take1]⟩
  | n + 1, c :: q => by
    have ih := readT_U n
    by_cases h0 : c = 48
    · subst h0
      exact ⟨fun t r h => by simp [readU] at h; obtain ⟨rfl, rfl⟩ := h; simp [readT, take1], fun h => by simp [readU] at h⟩
    by_cases h1 : c = 49
    · subst h1
      exact ⟨fun t r h => by simp [readU] at h; obtain ⟨rfl, rfl⟩ := h; simp [readT, take1], fun h => by simp [readU] at h⟩
    rw [readU, readT_false]
    have t1 : take1 49 (c :: q) = (false, c :: q) := by simp [take1, h1]
    have t0 : take1 48 (c :: q) = (false, c :: q) := by simp [take1, h0]
    rw [if_neg h0, if_neg h1, t1, t0, if_neg Bool.false_ne_true, if_neg Bool.false_ne_true]
    by_cases h2 : c = 40
    · subst h2
      have t2 : take1 40 (40 :: q) = (true, q) := by simp [take1]
      rw [if_pos rfl, t2, if_pos rfl]
      dsimp only
      cases hx : readU n q with
      | none =>
        have hb := (ih q).2 hx
        refine ⟨fun t r h => (by cases h), fun _ => ?_⟩
        rw [hb, sepT_bad]
        dsimp only
        rw [readT_bad, sepT_bad]
      | some x =>
        obtain ⟨a, ra⟩ := x
        have ha := (ih q).1 a ra hx
        rw [ha]
        dsimp only
        cases ra with
        | nil =>
          refine ⟨fun t r h => (by cases h), fun _ => ?_⟩
          have : sepT 44 [] false = ([], true) := rfl
          rw [this]
          dsimp only
          rw [readT_bad, sepT_bad]
        | cons c2 r2 =>
          dsimp only
          by_cases h3 : c2 = 44
          · subst h3
            have : sepT 44 (44 :: r2) false = (r2, false) := by simp [sepT, take1]
            rw [if_pos rfl, this]
            dsimp only
            cases hy : readU n r2 with
            | none =>
              have hb := (ih r2).2 hy
              refine ⟨fun t r h => (by cases h), fun _ => ?_⟩
              rw [hb, sepT_bad]
            | some y =>
              obtain ⟨b, rb⟩ := y
              have hb := (ih r2).1 b rb hy
              rw [hb]
              dsimp only
              cases rb with
              | nil => exact ⟨fun t r h => (by cases h), fun _ => rfl⟩
              | cons c3 r3 =>
                dsimp only
                by_cases h4 : c3 = 41
                · subst h4
                  have : sepT 41 (41 :: r3) false = (r3, false) := by simp [sepT, take1]
                  rw [if_pos rfl, this]
                  exact ⟨fun t r h => (by cases h; rfl), fun h => (by cases h)⟩
                · have : sepT 41 (c3 :: r3) false = (c3 :: r3, true) := by simp [sepT, take1, h4]
                  rw [if_neg h4, this]
                  exact ⟨fun t r h => (by cases h), fun _ => rfl⟩
          · have : sepT 44 (c2 :: r2) false = (c2 :: r2, true) := by simp [sepT, take1, h3]
            rw [if_neg h3, this]
            refine ⟨fun t r h => (by cases h), fun _ => ?_⟩
            dsimp only
            rw [readT_bad, sepT_bad]
    · have t2 : take1 40 (c :: q) = (false, c :: q) := by simp [take1, h2]
      rw [if_neg h2, t2, if_neg Bool.false_ne_true]
      exact ⟨fun t r h => (by cases h), fun _ => rfl⟩
end Go.Proofs.Ytlhaofbncoijfaa.Tree
namespace Go.Proofs.Ytlhaofbncoijfaa.Tree
set_option linter.unusedVariables false
set_option linter.unusedSimpArgs false
open Go.RowKit Go.Proofs.Ytlhaofbncoijfaa.X Go.Proofs.Ytlhaofbncoijfaa.Tree.T Go.Proofs.Ytlhaofbncoijfaa.HandF
open Go.Proofs.YtlhaofbncoijfaaW.PrintWords Go.Proofs.YtlhaofbncoijfaaW.PrintLast Go.Proofs.YtlhaofbncoijfaaW.PrintMore
/-- What Show hands back. -/
def ShowS (s : S24) : List UInt8 × Int := if rightB s = true then (match T.ofS s with | some t => (t.norm.text, 0) | none => ([], 2)) else ([], 2)
theorem ShowS_right (t : T) (h : t.right) : ShowS t.toS = (t.norm.text, 0) := by
  unfold ShowS
  rw [right_T, decide_eq_true h, if_pos rfl, T.of_toS]
theorem ShowS_bad (s : S24) (h : rightB s = false) : ShowS s = ([], 2) := by
  unfold ShowS
  rw [h, if_neg (by decide)]
theorem show_f (s : S24) : id_Show.f s.f0 s.f1 = some (⟨(ShowS s).1.toArray⟩, (ShowS s).2) := by
  unfold id_Show.f
  rw [S24_eta]
  cases hr : rightB s
  · rw [if_neg (by decide), ShowS_bad s hr]
  · obtain ⟨t, rfl, ht⟩ := (right_iff s).1 hr
    rw [if_pos rfl, T.of_toS, ShowS_right t ht]
    rfl
theorem readU_back : ∀ (t : T) (n : Nat) (r : List UInt8), t.depth < n → readU n (t.text ++ r) = some (t, r)
  | .leaf b, n + 1, r, h => by cases b <;> simp [T.text, readU]
  | .node a b, n + 1, r, h => by
    have hd : a.depth < n ∧ b.depth < n := by simp [T.depth] at h; omega
    have ea := readU_back a n (44 :: (b.text ++ (41 :: r))) hd.1
    have eb := readU_back b n (41 :: r) hd.2
    have e : (T.node a b).text ++ r = 40 :: (a.text ++ (44 :: (b.text ++ (41 :: r)))) := by simp [T.text]
    rw [e, readU, if_neg (by decide), if_neg (by decide), if_pos rfl, ea]
    dsimp only
    rw [if_pos rfl, eb]
    dsimp only
    rw [if_pos rfl]
/-- The text of a normal form is taken as it is. -/
theorem parse_back (t : T) (ht : t.right) : ParseT t.norm.text = (t.norm, 0) := by
  have hn := norm_right ht
  have hu := readU_back t.norm 33 [] (by have := hn.1; omega)
  rw [List.append_nil] at hu
  have hy := (readT_U 33 t.norm.text).1 _ _ hu
  rw [show ParseT t.norm.text = parseOf (t.norm, [], false) from congrArg parseOf hy, parseOf_eq, if_pos ⟨rfl, rfl, hn, T.eqb_iff.2 (T.norm_of_nf (T.norm_nf t)).symm⟩]
/-- A text that is taken is shown again. -/
theorem parse_shows (l : List UInt8) (h : (ParseT l).2 = 0) : ShowS (ParseT l).1.toS = (l, 0) := by
  obtain ⟨y, hy⟩ : ∃ y, readT 33 l false = y := ⟨_, rfl⟩
  obtain ⟨t, r, b⟩ := y
  have hP : ParseT l = if b = false ∧ r = [] ∧ t.right ∧ T.eqb t t.norm = true then (t, 0) else (.leaf false, 40) := (congrArg parseOf hy).trans (parseOf_eq t r b)
  rw [hP] at h ⊢
  by_cases hc : b = false ∧ r = [] ∧ t.right ∧ T.eqb t t.norm = true
  · rw [if_pos hc]
    obtain ⟨rfl, rfl, ht, he⟩ := hc
    dsimp only
    rw [ShowS_right t ht, ← T.eqb_iff.1 he]
    obtain ⟨x, hx⟩ : ∃ x, readU 33 l = x := ⟨_, rfl⟩
    cases x with
    | none =>
      have := (readT_U 33 l).2 hx
      rw [hy] at this
      cases this
    | some x =>
      obtain ⟨a, s⟩ := x
      have h1 := (readT_U 33 l).1 a s hx
      rw [hy] at h1
      obtain ⟨rfl, rfl, _⟩ : t = a ∧ [] = s ∧ false = false := by
        have e1 := congrArg Prod.fst h1
        have e2 := congrArg (fun z => z.2.1) h1
        exact ⟨e1, e2, rfl⟩
      have htx := readU_text 33 hx
      rw [List.append_nil] at htx
      rw [← htx]
  · rw [if_neg hc] at h
    cases h
end Go.Proofs.Ytlhaofbncoijfaa.Tree
namespace Go.Proofs.Ytlhaofbncoijfaa.HandF
set_option linter.unusedVariables false
set_option linter.unusedSimpArgs false
open Go.RowKit Go.Proofs.Ytlhaofbncoijfaa.X Go.Proofs.Ytlhaofbncoijfaa.Tree Go.Proofs.Ytlhaofbncoijfaa.Blocks
open Go.Proofs.YtlhaofbncoijfaaW.PrintWords Go.Proofs.YtlhaofbncoijfaaW.PrintLast Go.Proofs.YtlhaofbncoijfaaW.PrintMore
theorem Show28t (k : Kd2) (w : World) (hl : k.1.f1.length ≤ k.2.2) (hC : Kd.C k24 w k.2.1 k.1.f1.length k.1.f1) :
    Calls Try.prog 28 #[kv k] w fun e w' => e = .returned (.tuple #[.string ⟨(ShowS k.1).1.toArray⟩, .int .i64 (ShowS k.1).2]) ∧ Below w.heap.size w w' := by
  obtain ⟨⟨b, l⟩, A, c⟩ := k
  exact id_Show.calls b A c l _ _ w hC hl (show_f ⟨b, l⟩)
end Go.Proofs.Ytlhaofbncoijfaa.HandF
namespace Go.Proofs.Ytlhaofbncoijfaa.Math
set_option linter.unusedVariables false
set_option linter.unusedSimpArgs false
open Go.RowKit Go.Proofs.Ytlhaofbncoijfaa.X Go.Proofs.Ytlhaofbncoijfaa.HandF Go.Proofs.Ytlhaofbncoijfaa.Hand Go.Proofs.Ytlhaofbncoijfaa.Tree
open Go.Proofs.YtlhaofbncoijfaaW.PrintWords Go.Proofs.YtlhaofbncoijfaaW.PrintLast Go.Proofs.YtlhaofbncoijfaaW.PrintMore
/-- These bits stand at that place. -/
def BitsAt (l : List Int) (p : Nat) (L : List Bool) : Prop := ∀ j (hj : j < L.length), bitN l (p + j) = (L[j]).toNat
theorem BitsAt.left {l : List Int} {p : Nat} {L M : List Bool} (h : BitsAt l p (L ++ M)) : BitsAt l p L := fun j hj => by
  have := h j (by rw [List.length_append]; omega)
  rwa [List.getElem_append_left hj] at this
theorem BitsAt.right {l : List Int} {p : Nat} {L M : List Bool} (h : BitsAt l p (L ++ M)) : BitsAt l (p + L.length) M := fun j hj => by
  have := h (L.length + j) (by rw [List.length_append]; omega)
  rw [List.getElem_append_right (by omega)] at this
  simp only [Nat.add_sub_cancel_left] at this
  rw [Nat.add_assoc]
  exact this
theorem readB_back : ∀ (t : T) (m : Nat) {l : List Int} {n p : Nat}, t.depth < m → BitsAt l p (bitsT t) → p + (bitsT t).length ≤ n → readB m l n p = some (t, p + (bitsT t).length)
  | .leaf b, m + 1, l, n, p, hd, hb, hn => by
    have hl : (bitsT (.leaf b)).length = 2 := rfl
    rw [hl] at hn ⊢
    have h0 : bitN l p = 0 := hb 0 (by rw [hl]; omega)
    have h1 : bitN l (p + 1) = b.toNat := hb 1 (by rw [hl]; omega)
    rw [readB, if_neg (by omega), if_pos h0, if_neg (by omega), h1]
    cases b <;> rfl
  | .node a b, m + 1, l, n, p, hd, hb, hn => by
    have hdd : a.depth < m ∧ b.depth < m := by simp [T.depth] at hd; omega
    have hL : bitsT (.node a b) = [true] ++ (bitsT a ++ bitsT b) := by simp [bitsT]
    rw [hL] at hb
    have hlen : (bitsT (.node a b)).length = 1 + ((bitsT a).length + (bitsT b).length) := by rw [hL]; simp; omega
    rw [hlen] at hn ⊢
    have h0 : bitN l p = 1 := hb 0 (by simp)
    have hr := hb.right
    have h1 : BitsAt l (p + 1) (bitsT a) := hr.left
    have h2 : BitsAt l (p + 1 + (bitsT a).length) (bitsT b) := hr.right
    have ea := readB_back a m (n := n) hdd.1 h1 (by omega)
    have eb := readB_back b m (n := n) hdd.2 h2 (by omega)
    rw [readB, if_neg (by omega), if_neg (by omega), ea]
    dsimp only
    rw [eb]
    dsimp only
    congr 2
    omega
/-- What is laid behind nothing is taken again. -/
theorem lay_take (t : T) (ht : t.right) : ∃ (l : List Int) (n : Nat), LayS [] 0 t.toS = (l, (n : Int), 0) ∧ Row l n ∧ n ≤ 8192 ∧ TakeT l (n : Int) 0 = (t.norm, (n : Int), 0) := by
  have hn := norm_right ht
  have hg := LayS_good (l := []) (m := 0) (t := t) Row.nil.right ht
  obtain ⟨l', e, r, _, hb⟩ := row_fold (bitsT t.norm) Row.nil
  have e' : addB (bitsT t.norm) [] 0 = (l', ((0 + (bitsT t.norm).length : Nat) : Int)) := e
  rw [e'] at hg
  have hlen := bitsT_length t.norm
  have hcnt := hn.2
  refine ⟨l', 0 + (bitsT t.norm).length, hg, r, by omega, ?_⟩
  have hx := readB_back t.norm 33 (l := l') (n := 0 + (bitsT t.norm).length) (p := 0) (by have := hn.1; omega) (fun j hj => hb j hj) (Nat.le_refl _)
  rw [show (0 : Int) = ((0 : Nat) : Int) from rfl, TakeT_some r.right (Nat.zero_le _) hx, if_pos ⟨hn, T.eqb_iff.2 (T.norm_of_nf (T.norm_nf t)).symm⟩]
  rfl
end Go.Proofs.Ytlhaofbncoijfaa.Math
namespace Go.Proofs.Ytlhaofbncoijfaa.HandF
set_option linter.unusedVariables false
set_option linter.unusedSimpArgs false
open Go.RowKit Go.Proofs.Ytlhaofbncoijfaa.X Go.Proofs.Ytlhaofbncoijfaa.Blocks Go.Proofs.Ytlhaofbncoijfaa.Tree
open Go.Proofs.Ytlhaofbncoijfaa.Math (Bytes LayS)
open Go.Proofs.YtlhaofbncoijfaaW.PrintWords Go.Proofs.YtlhaofbncoijfaaW.PrintLast Go.Proofs.YtlhaofbncoijfaaW.PrintMore
set_option maxRecDepth 100000 in
set_option maxHeartbeats 40000000 in
theorem Back11f (k : Kd2) (l : List UInt8) (w : World) (hk : k.1.f1.length ≤ k.2.2) (hkC : Kd.C k24 w k.2.1 k.1.f1.length k.1.f1) (hf : ¬ (ParseT l).2 = 0) :
    Calls Try.prog 11 #[kv k, .string ⟨l.toArray⟩] w fun e w' => e = .returned (.bool true) ∧ Below w.heap.size w w' := by
  have LK := Lib.hid hk
  have CK := Lib.hid hkC
  obtain ⟨f, hf0⟩ : ∃ f, (ParseT l).2 = f := ⟨_, rfl⟩
  have E0 := Lib.hid hf0
  rw [hf0] at hf
  have hff : (f == 0) = false := by rw [beq_eq_false_iff_ne]; exact hf
  clear hf0
  clear hk hkC hf
  have hu24 := Try.underlying24
  have hu22 := Try.underlying22
  have hu26 := Try.underlying26
  go_enter Try.func11, Try.ntmps11
  go_wp2_with fail
  have B0 : Hid (Below w.heap.size w (w.alloc (.cells #[.bool k.1.f0, .slice k.2.1 k.1.f1.length k.2.2] 24))) := Lib.hid ((Below.refl _ _).alloc (Nat.le_refl _) _)
  have K0 := Lib.hid (box24.new w k)
  refine (pannierlaw04_shown.calls true _ rfl).mono ?_
  rintro e w1 ⟨rfl, hb1⟩
  have K1 := Lib.hid (K0.out.below hb1)
  have B1 := Lib.hid (B0.out.trans (hb1.mono B0.out.size))
  clear hb1 K0
  go_wp2_with fail
  refine (Parse30 l _).mono ?_
  rintro e w2 ⟨u, rfl, hu, fu, hb2⟩
  rw [E0.out]
  have K2 := Lib.hid (K1.out.below hb2)
  have B2 := Lib.hid (B1.out.trans (hb2.mono B1.out.size))
  clear hu fu hb2 K1
  have K3 := Lib.hid (K2.out.alloc (ob := (.cells #[.bool u.1.f0, .slice u.2.1 u.1.f1.length u.2.2] 24)))
  have B3 := Lib.hid (B2.out.trans (((Below.refl w2.heap.size w2).alloc (Nat.le_refl _) (.cells #[.bool u.1.f0, .slice u.2.1 u.1.f1.length u.2.2] 24)).mono B2.out.size))
  clear K2
  have a0 := K3.out.c0
  have a1 := K3.out.c1
  go_wp2_with fail
  clear a0 a1
  refine (Norm13 k _ LK.out (Kd.C_below CK.out B3.out)).mono ?_
  rintro e w4 ⟨x, rfl, hx, fx, hb4⟩
  have K4 := Lib.hid (K3.out.below hb4)
  have B4 := Lib.hid (B3.out.trans (hb4.mono B3.out.size))
  have HX := Lib.hid hx
  have FX4 := Lib.hid fx
  clear hx fx hb4 K3
  cases hr : rightB k.1
  · rw [NormS_bad k.1 hr]
    dsimp only
    go_wp2_with fail
    go_ret
    exact ⟨rfl, B4.out.trans (((Below.refl _ _).alloc (Nat.le_refl _) _).mono B4.out.size)⟩
  obtain ⟨t, hkt, ht⟩ := (right_iff k.1).1 hr
  clear hr
  obtain ⟨xs, n, hlay, hrow, hn, htake⟩ := Math.lay_take t ht
  have HX : Hid (x.1 = t.norm.toS) := Lib.hid (by rw [HX.out, ← hkt, NormS_right t ht])
  have EN : Hid ((NormS k.1).2 = 0) := Lib.hid (by rw [← hkt, NormS_right t ht])
  have ES : Hid (ShowS k.1 = (t.norm.text, 0)) := Lib.hid (by rw [← hkt, ShowS_right t ht])
  have EP : Hid (ParseT t.norm.text = (t.norm, 0)) := Lib.hid (parse_back t ht)
  have EL : Hid (LayS [] 0 k.1 = (xs, (n : Int), 0)) := Lib.hid (by rw [← hkt, hlay])
  have ET := Lib.hid htake
  have RB := Lib.hid hrow.bytes
  have RL : Hid (xs.length ≤ 140737488351232) := Lib.hid (by have := hrow.len; omega)
  have N0 : Hid (-9223372036854775808 ≤ (n : Int)) := Lib.hid (by omega)
  have N1 : Hid ((n : Int) ≤ 9223372036854775807) := Lib.hid (by omega)
  have EQ : Hid (T.eqb t.norm t.norm = true) := Lib.hid (eqb_self _)
  have enn : ((n : Int) == (n : Int)) = true := by simp
  clear hkt hlay hrow hn htake
  rw [EN.out]
  have a0 := (K4.out.alloc (ob := (.cells #[.bool x.1.f0, .slice x.2.1 x.1.f1.length x.2.2] 24))).c0
  have a1 := (K4.out.alloc (ob := (.cells #[.bool x.1.f0, .slice x.2.1 x.1.f1.length x.2.2] 24))).c1
  go_wp2_with fail
  clear a0 a1
  obtain ⟨W5, hW5⟩ : ∃ W, w4.alloc (.cells #[.bool x.1.f0, .slice x.2.1 x.1.f1.length x.2.2] 24) = W := ⟨_, rfl⟩
  have hb5 : Below w4.heap.size w4 W5 := by rw [← hW5]; exact (Below.refl _ _).alloc (Nat.le_refl _) _
  have gx : box24 W5 w4.heap.size x := by rw [← hW5]; exact box24.new _ _
  rw [hW5]
  have X5 := Lib.hid gx
  have K5 := Lib.hid (K4.out.below hb5)
  have FX5 := Lib.hid (FX4.out.below hb5)
  have B5 := Lib.hid (B4.out.trans (hb5.mono B4.out.size))
  clear gx hb5 hW5
  clear K4 FX4
  refine (Show28t k _ LK.out (Kd.C_below CK.out B5.out)).mono ?_
  rintro e w6 ⟨rfl, hb6⟩
  rw [ES.out]
  dsimp only
  have K6 := Lib.hid (K5.out.below hb6)
  have X6 := Lib.hid (X5.out.below hb6)
  have FX6 := Lib.hid (FX5.out.below hb6)
  have B6 := Lib.hid (B5.out.trans (hb6.mono B5.out.size))
  clear hb6 K5 X5 FX5
  go_wp2_with fail
  refine (Parse30 t.norm.text _).mono ?_
  rintro e w7 ⟨y, rfl, hy, fy, hb7⟩
  rw [EP.out] at hy ⊢
  dsimp only at hy ⊢
  have HY := Lib.hid hy
  have FY7 := Lib.hid fy
  have K7 := Lib.hid (K6.out.below hb7)
  have X7 := Lib.hid (X6.out.below hb7)
  have FX7 := Lib.hid (FX6.out.below hb7)
  have B7 := Lib.hid (B6.out.trans (hb7.mono B6.out.size))
  clear hy fy hb7 K6 X6 FX6
  have a0 := (K7.out.alloc (ob := (.cells #[.bool y.1.f0, .slice y.2.1 y.1.f1.length y.2.2] 24))).c0
  have a1 := (K7.out.alloc (ob := (.cells #[.bool y.1.f0, .slice y.2.1 y.1.f1.length y.2.2] 24))).c1
  go_wp2_with fail
  clear a0 a1
  obtain ⟨W8, hW8⟩ : ∃ W, w7.alloc (.cells #[.bool y.1.f0, .slice y.2.1 y.1.f1.length y.2.2] 24) = W := ⟨_, rfl⟩
  have hb8 : Below w7.heap.size w7 W8 := by rw [← hW8]; exact (Below.refl _ _).alloc (Nat.le_refl _) _
  have gy : box24 W8 w7.heap.size y := by rw [← hW8]; exact box24.new _ _
  rw [hW8]
  have Y8 := Lib.hid gy
  have X8 := Lib.hid (X7.out.below hb8)
  have FX8 := Lib.hid (FX7.out.below hb8)
  have FY8 := Lib.hid (FY7.out.below hb8)
  have B8 := Lib.hid (B7.out.trans (hb8.mono B7.out.size))
  clear gy hb8 hW8
  clear K7 X7 FX7 FY7
  refine (Lay32 none 0 [] 0 k _ (Kd.C_nil _ _) (Nat.le_refl _) (fun x hx => by cases hx) (by decide) (by decide) (by decide) LK.out (Kd.C_below CK.out B8.out)).mono ?_
  rintro e w9 ⟨v, rfl, rv, hb9⟩
  rw [EL.out] at rv ⊢
  dsimp only at rv ⊢
  obtain ⟨A, c, rfl⟩ := Kd.R_slice rv
  have X9 := Lib.hid (X8.out.below hb9)
  have Y9 := Lib.hid (Y8.out.below hb9)
  have FX9 := Lib.hid (FX8.out.below hb9)
  have FY9 := Lib.hid (FY8.out.below hb9)
  have B9 := Lib.hid (B8.out.trans (hb9.mono B8.out.size))
  have R9 := Lib.hid rv
  clear rv hb9 X8 Y8 FX8 FY8
  go_wp2_with fail
  refine (Take34 A c xs n 0 _ (Kd.R_reads' R9.out).2.2 (Kd.R_reads' R9.out).2.1 RB.out RL.out N0.out N1.out).mono ?_
  rintro e w10 ⟨z, rfl, hz, fz, hb10⟩
  rw [ET.out] at hz ⊢
  dsimp only at hz ⊢
  have HZ := Lib.hid hz
  have FZ10 := Lib.hid fz
  have X10 := Lib.hid (X9.out.below hb10)
  have Y10 := Lib.hid (Y9.out.below hb10)
  have FX10 := Lib.hid (FX9.out.below hb10)
  have FY10 := Lib.hid (FY9.out.below hb10)
  have B10 := Lib.hid (B9.out.trans (hb10.mono B9.out.size))
  clear hz fz hb10 X9 Y9 FX9 FY9 R9
  have x0 := (X10.out.alloc (ob := (.cells #[.bool z.1.f0, .slice z.2.1 z.1.f1.length z.2.2] 24))).c0
  have x1 := (X10.out.alloc (ob := (.cells #[.bool z.1.f0, .slice z.2.1 z.1.f1.length z.2.2] 24))).c1
  have y0 := (Y10.out.alloc (ob := (.cells #[.bool z.1.f0, .slice z.2.1 z.1.f1.length z.2.2] 24))).c0
  have y1 := (Y10.out.alloc (ob := (.cells #[.bool z.1.f0, .slice z.2.1 z.1.f1.length z.2.2] 24))).c1
  go_wp2_with fail
  clear x0 x1 y0 y1
  obtain ⟨W11, hW11⟩ : ∃ W, w10.alloc (.cells #[.bool z.1.f0, .slice z.2.1 z.1.f1.length z.2.2] 24) = W := ⟨_, rfl⟩
  have hb11 : Below w10.heap.size w10 W11 := by rw [← hW11]; exact (Below.refl _ _).alloc (Nat.le_refl _) _
  have gz : box24 W11 w10.heap.size z := by rw [← hW11]; exact box24.new _ _
  rw [hW11]
  have Z11 := Lib.hid gz
  have X11 := Lib.hid (X10.out.below hb11)
  have FX11 := Lib.hid (FX10.out.below hb11)
  have FY11 := Lib.hid (FY10.out.below hb11)
  have FZ11 := Lib.hid (FZ10.out.below hb11)
  have B11 := Lib.hid (B10.out.trans (hb11.mono B10.out.size))
  clear gz hb11 hW11
  clear X10 Y10 FX10 FY10 FZ10
  refine (Equal19 x y t.norm t.norm _ HX.out HY.out FX11.out.len FX11.out.now FY11.out.len FY11.out.now).mono ?_
  rintro e w12 ⟨rfl, hb12⟩
  have X12 := Lib.hid (X11.out.below hb12)
  have Z12 := Lib.hid (Z11.out.below hb12)
  have FX12 := Lib.hid (FX11.out.below hb12)
  have FZ12 := Lib.hid (FZ11.out.below hb12)
  have B12 := Lib.hid (B11.out.trans (hb12.mono B11.out.size))
  clear hb12 X11 Z11 FX11 FY11 FZ11
  rw [EQ.out]
  have x0 := X12.out.c0
  have x1 := X12.out.c1
  have z0 := Z12.out.c0
  have z1 := Z12.out.c1
  go_wp2_with fail
  refine (Equal19 x z t.norm t.norm _ HX.out HZ.out FX12.out.len FX12.out.now FZ12.out.len FZ12.out.now).mono ?_
  rintro e w13 ⟨rfl, hb13⟩
  have B13 := Lib.hid (B12.out.trans (hb13.mono B12.out.size))
  clear hb13 x0 x1 z0 z1
  rw [EQ.out]
  go_wp2_with fail
  go_ret
  exact ⟨rfl, B13.out⟩
set_option maxRecDepth 100000 in
set_option maxHeartbeats 40000000 in
theorem Back11g (k : Kd2) (l : List UInt8) (w : World) (hk : k.1.f1.length ≤ k.2.2) (hkC : Kd.C k24 w k.2.1 k.1.f1.length k.1.f1) (hf : (ParseT l).2 = 0) :
    Calls Try.prog 11 #[kv k, .string ⟨l.toArray⟩] w fun e w' => e = .returned (.bool true) ∧ Below w.heap.size w w' := by
  have LK := Lib.hid hk
  have CK := Lib.hid hkC
  have hll : (l == l) = true := beq_self_eq_true _
  have HS := Lib.hid (parse_shows l hf)
  have E0 := Lib.hid hf
  clear hk hkC hf
  have hu24 := Try.underlying24
  have hu22 := Try.underlying22
  have hu26 := Try.underlying26
  go_enter Try.func11, Try.ntmps11
  go_wp2_with fail
  have B0 : Hid (Below w.heap.size w (w.alloc (.cells #[.bool k.1.f0, .slice k.2.1 k.1.f1.length k.2.2] 24))) := Lib.hid ((Below.refl _ _).alloc (Nat.le_refl _) _)
  have K0 := Lib.hid (box24.new w k)
  refine (pannierlaw04_shown.calls true _ rfl).mono ?_
  rintro e w1 ⟨rfl, hb1⟩
  have K1 := Lib.hid (K0.out.below hb1)
  have B1 := Lib.hid (B0.out.trans (hb1.mono B0.out.size))
  clear hb1 K0
  go_wp2_with fail
  refine (Parse30 l _).mono ?_
  rintro e w2 ⟨u, rfl, hu, fu, hb2⟩
  rw [E0.out]
  have HU : Hid (ShowS u.1 = (l, 0)) := Lib.hid (by rw [hu]; exact HS.out)
  have FU2 := Lib.hid fu
  have K2 := Lib.hid (K1.out.below hb2)
  have B2 := Lib.hid (B1.out.trans (hb2.mono B1.out.size))
  clear hu fu hb2 K1
  go_wp2_with fail
  obtain ⟨W3, hW3⟩ : ∃ W, w2.alloc (.cells #[.bool u.1.f0, .slice u.2.1 u.1.f1.length u.2.2] 24) = W := ⟨_, rfl⟩
  have hb3 : Below w2.heap.size w2 W3 := by rw [← hW3]; exact (Below.refl _ _).alloc (Nat.le_refl _) _
  have gu : box24 W3 w2.heap.size u := by rw [← hW3]; exact box24.new _ _
  rw [hW3]
  have U3 := Lib.hid gu
  have K3 := Lib.hid (K2.out.below hb3)
  have FU3 := Lib.hid (FU2.out.below hb3)
  have B3 := Lib.hid (B2.out.trans (hb3.mono B2.out.size))
  clear gu hb3 hW3
  clear K2 FU2 U3
  refine (Show28t u _ FU3.out.len FU3.out.now).mono ?_
  rintro e w4 ⟨rfl, hb4⟩
  rw [HU.out]
  dsimp only
  have K4 := Lib.hid (K3.out.below hb4)
  have B4 := Lib.hid (B3.out.trans (hb4.mono B3.out.size))
  clear hb4 K3 FU3
  have a0 := K4.out.c0
  have a1 := K4.out.c1
  go_wp2_with fail
  clear a0 a1
  refine (Norm13 k _ LK.out (Kd.C_below CK.out B4.out)).mono ?_
  rintro e w5 ⟨x, rfl, hx, fx, hb5⟩
  have K5 := Lib.hid (K4.out.below hb5)
  have B5 := Lib.hid (B4.out.trans (hb5.mono B4.out.size))
  have HX := Lib.hid hx
  have FX5 := Lib.hid fx
  clear hx fx hb5 K4
  cases hr : rightB k.1
  · rw [NormS_bad k.1 hr]
    dsimp only
    go_wp2_with fail
    go_ret
    exact ⟨rfl, B5.out.trans (((Below.refl _ _).alloc (Nat.le_refl _) _).mono B5.out.size)⟩
  obtain ⟨t, hkt, ht⟩ := (right_iff k.1).1 hr
  clear hr
  obtain ⟨xs, n, hlay, hrow, hn, htake⟩ := Math.lay_take t ht
  have HX : Hid (x.1 = t.norm.toS) := Lib.hid (by rw [HX.out, ← hkt, NormS_right t ht])
  have EN : Hid ((NormS k.1).2 = 0) := Lib.hid (by rw [← hkt, NormS_right t ht])
  have ES : Hid (ShowS k.1 = (t.norm.text, 0)) := Lib.hid (by rw [← hkt, ShowS_right t ht])
  have EP : Hid (ParseT t.norm.text = (t.norm, 0)) := Lib.hid (parse_back t ht)
  have EL : Hid (LayS [] 0 k.1 = (xs, (n : Int), 0)) := Lib.hid (by rw [← hkt, hlay])
  have ET := Lib.hid htake
  have RB := Lib.hid hrow.bytes
  have RL : Hid (xs.length ≤ 140737488351232) := Lib.hid (by have := hrow.len; omega)
  have N0 : Hid (-9223372036854775808 ≤ (n : Int)) := Lib.hid (by omega)
  have N1 : Hid ((n : Int) ≤ 9223372036854775807) := Lib.hid (by omega)
  have EQ : Hid (T.eqb t.norm t.norm = true) := Lib.hid (eqb_self _)
  have enn : ((n : Int) == (n : Int)) = true := by simp
  clear hkt hlay hrow hn htake
  rw [EN.out]
  have a0 := (K5.out.alloc (ob := (.cells #[.bool x.1.f0, .slice x.2.1 x.1.f1.length x.2.2] 24))).c0
  have a1 := (K5.out.alloc (ob := (.cells #[.bool x.1.f0, .slice x.2.1 x.1.f1.length x.2.2] 24))).c1
  go_wp2_with fail
  clear a0 a1
  obtain ⟨W6, hW6⟩ : ∃ W, w5.alloc (.cells #[.bool x.1.f0, .slice x.2.1 x.1.f1.length x.2.2] 24) = W := ⟨_, rfl⟩
  have hb6 : Below w5.heap.size w5 W6 := by rw [← hW6]; exact (Below.refl _ _).alloc (Nat.le_refl _) _
  have gx : box24 W6 w5.heap.size x := by rw [← hW6]; exact box24.new _ _
  rw [hW6]
  have X6 := Lib.hid gx
  have K6 := Lib.hid (K5.out.below hb6)
  have FX6 := Lib.hid (FX5.out.below hb6)
  have B6 := Lib.hid (B5.out.trans (hb6.mono B5.out.size))
  clear gx hb6 hW6
  clear K5 FX5
  refine (Show28t k _ LK.out (Kd.C_below CK.out B6.out)).mono ?_
  rintro e w7 ⟨rfl, hb7⟩
  rw [ES.out]
  dsimp only
  have K7 := Lib.hid (K6.out.below hb7)
  have X7 := Lib.hid (X6.out.below hb7)
  have FX7 := Lib.hid (FX6.out.below hb7)
  have B7 := Lib.hid (B6.out.trans (hb7.mono B6.out.size))
  clear hb7 K6 X6 FX6
  go_wp2_with fail
  refine (Parse30 t.norm.text _).mono ?_
  rintro e w8 ⟨y, rfl, hy, fy, hb8⟩
  rw [EP.out] at hy ⊢
  dsimp only at hy ⊢
  have HY := Lib.hid hy
  have FY8 := Lib.hid fy
  have K8 := Lib.hid (K7.out.below hb8)
  have X8 := Lib.hid (X7.out.below hb8)
  have FX8 := Lib.hid (FX7.out.below hb8)
  have B8 := Lib.hid (B7.out.trans (hb8.mono B7.out.size))
  clear hy fy hb8 K7 X7 FX7
  have a0 := (K8.out.alloc (ob := (.cells #[.bool y.1.f0, .slice y.2.1 y.1.f1.length y.2.2] 24))).c0
  have a1 := (K8.out.alloc (ob := (.cells #[.bool y.1.f0, .slice y.2.1 y.1.f1.length y.2.2] 24))).c1
  go_wp2_with fail
  clear a0 a1
  obtain ⟨W9, hW9⟩ : ∃ W, w8.alloc (.cells #[.bool y.1.f0, .slice y.2.1 y.1.f1.length y.2.2] 24) = W := ⟨_, rfl⟩
  have hb9 : Below w8.heap.size w8 W9 := by rw [← hW9]; exact (Below.refl _ _).alloc (Nat.le_refl _) _
  have gy : box24 W9 w8.heap.size y := by rw [← hW9]; exact box24.new _ _
  rw [hW9]
  have Y9 := Lib.hid gy
  have X9 := Lib.hid (X8.out.below hb9)
  have FX9 := Lib.hid (FX8.out.below hb9)
  have FY9 := Lib.hid (FY8.out.below hb9)
  have B9 := Lib.hid (B8.out.trans (hb9.mono B8.out.size))
  clear gy hb9 hW9
  clear K8 X8 FX8 FY8
  refine (Lay32 none 0 [] 0 k _ (Kd.C_nil _ _) (Nat.le_refl _) (fun x hx => by cases hx) (by decide) (by decide) (by decide) LK.out (Kd.C_below CK.out B9.out)).mono ?_
  rintro e w10 ⟨v, rfl, rv, hb10⟩
  rw [EL.out] at rv ⊢
  dsimp only at rv ⊢
  obtain ⟨A, c, rfl⟩ := Kd.R_slice rv
  have X10 := Lib.hid (X9.out.below hb10)
  have Y10 := Lib.hid (Y9.out.below hb10)
  have FX10 := Lib.hid (FX9.out.below hb10)
  have FY10 := Lib.hid (FY9.out.below hb10)
  have B10 := Lib.hid (B9.out.trans (hb10.mono B9.out.size))
  have R10 := Lib.hid rv
  clear rv hb10 X9 Y9 FX9 FY9
  go_wp2_with fail
  refine (Take34 A c xs n 0 _ (Kd.R_reads' R10.out).2.2 (Kd.R_reads' R10.out).2.1 RB.out RL.out N0.out N1.out).mono ?_
  rintro e w11 ⟨z, rfl, hz, fz, hb11⟩
  rw [ET.out] at hz ⊢
  dsimp only at hz ⊢
  have HZ := Lib.hid hz
  have FZ11 := Lib.hid fz
  have X11 := Lib.hid (X10.out.below hb11)
  have Y11 := Lib.hid (Y10.out.below hb11)
  have FX11 := Lib.hid (FX10.out.below hb11)
  have FY11 := Lib.hid (FY10.out.below hb11)
  have B11 := Lib.hid (B10.out.trans (hb11.mono B10.out.size))
  clear hz fz hb11 X10 Y10 FX10 FY10 R10
  have x0 := (X11.out.alloc (ob := (.cells #[.bool z.1.f0, .slice z.2.1 z.1.f1.length z.2.2] 24))).c0
  have x1 := (X11.out.alloc (ob := (.cells #[.bool z.1.f0, .slice z.2.1 z.1.f1.length z.2.2] 24))).c1
  have y0 := (Y11.out.alloc (ob := (.cells #[.bool z.1.f0, .slice z.2.1 z.1.f1.length z.2.2] 24))).c0
  have y1 := (Y11.out.alloc (ob := (.cells #[.bool z.1.f0, .slice z.2.1 z.1.f1.length z.2.2] 24))).c1
  go_wp2_with fail
  clear x0 x1 y0 y1
  obtain ⟨W12, hW12⟩ : ∃ W, w11.alloc (.cells #[.bool z.1.f0, .slice z.2.1 z.1.f1.length z.2.2] 24) = W := ⟨_, rfl⟩
  have hb12 : Below w11.heap.size w11 W12 := by rw [← hW12]; exact (Below.refl _ _).alloc (Nat.le_refl _) _
  have gz : box24 W12 w11.heap.size z := by rw [← hW12]; exact box24.new _ _
  rw [hW12]
  have Z12 := Lib.hid gz
  have X12 := Lib.hid (X11.out.below hb12)
  have FX12 := Lib.hid (FX11.out.below hb12)
  have FY12 := Lib.hid (FY11.out.below hb12)
  have FZ12 := Lib.hid (FZ11.out.below hb12)
  have B12 := Lib.hid (B11.out.trans (hb12.mono B11.out.size))
  clear gz hb12 hW12
  clear X11 Y11 FX11 FY11 FZ11
  refine (Equal19 x y t.norm t.norm _ HX.out HY.out FX12.out.len FX12.out.now FY12.out.len FY12.out.now).mono ?_
  rintro e w13 ⟨rfl, hb13⟩
  have X13 := Lib.hid (X12.out.below hb13)
  have Z13 := Lib.hid (Z12.out.below hb13)
  have FX13 := Lib.hid (FX12.out.below hb13)
  have FZ13 := Lib.hid (FZ12.out.below hb13)
  have B13 := Lib.hid (B12.out.trans (hb13.mono B12.out.size))
  clear hb13 X12 Z12 FX12 FY12 FZ12
  rw [EQ.out]
  have x0 := X13.out.c0
  have x1 := X13.out.c1
  have z0 := Z13.out.c0
  have z1 := Z13.out.c1
  go_wp2_with fail
  refine (Equal19 x z t.norm t.norm _ HX.out HZ.out FX13.out.len FX13.out.now FZ13.out.len FZ13.out.now).mono ?_
  rintro e w14 ⟨rfl, hb14⟩
  have B14 := Lib.hid (B13.out.trans (hb14.mono B13.out.size))
  clear hb14 x0 x1 z0 z1
  rw [EQ.out]
  go_wp2_with fail
  go_ret
  exact ⟨rfl, B14.out⟩
theorem Back11 (k : Kd2) (a : ByteArray) (w : World) (hk : k.1.f1.length ≤ k.2.2) (hkC : Kd.C k24 w k.2.1 k.1.f1.length k.1.f1) :
    Calls Try.prog 11 #[kv k, .string a] w fun e w' => e = .returned (.bool true) ∧ Below w.heap.size w w' := by
  have e : a = ⟨a.data.toList.toArray⟩ := by cases a; simp
  rw [e]
  by_cases hf : (ParseT a.data.toList).2 = 0
  · exact Back11g k _ w hk hkC hf
  · exact Back11f k _ w hk hkC hf
end Go.Proofs.Ytlhaofbncoijfaa.HandF
