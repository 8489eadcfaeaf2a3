/- Contracts by hand: keys.order, slices.CompareFunc at it, keys.Compare. -/
import Derived.Test.YtdofoopnjmbmcaaDoorX31
import Derived.Test.YtdofoopnjmbmcaaDoorX32
import Derived.Test.YtdofoopnjmbmcaaDoorShelf
import Derived.Test.YtdofoopnjmbmcaaDoorBlocks
import Derived.Deep.RegionHeld3
import Derived.Deep.DrawnRows
import Derived.WalkSpells
import Derived.WalkMore
import Derived.Lib.Hide
namespace Go.Proofs.YtdofoopnjmbmcaaDoor.HandF
set_option linter.unusedVariables false
set_option linter.unusedSimpArgs false
open Go.RowKit Go.Proofs.YtdofoopnjmbmcaaDoor.X Go.Proofs.YtdofoopnjmbmcaaDoor.Blocks
open Go.Proofs.YtdofoopnjmbmcaaDoorW.PrintWords Go.Proofs.YtdofoopnjmbmcaaDoorW.PrintLast Go.Proofs.YtdofoopnjmbmcaaDoorW.PrintMore

theorem new_at {W : World} {o : Obj} {n : Nat} (h : W.heap.size = n) : (W.alloc o).heap[n]? = some o := by subst h; exact alloc_new W o
theorem size_two (w : World) (a b : Obj) (n : Nat) : (((w.alloc a).alloc b).drewN n).heap.size = w.heap.size + 1 + 1 := by
  show ((w.alloc a).alloc b).heap.size = _
  rw [World.size_alloc, World.size_alloc]

def cmpN (x y : Int) : Int := if x < y then -1 else if x > y then 1 else 0
/-- How two parts stand. -/
def orderP (a b : S41) : Int :=
  if (a.f0 != b.f0) = true then (if b.f0 = true then -1 else 1)
  else if cmpN a.f1 b.f1 = 0 then Lib.compareBytes a.f2.data.toList b.f2.data.toList else cmpN a.f1 b.f1

theorem cmp64_some (x y : Int) : cmp_Compare_uint64.f x y = some (cmpN x y) := by
  unfold cmp_Compare_uint64.f cmp_isNaN_uint64.f
  rw [Option.bind_some, Option.bind_some, bne_self_eq_false, bne_self_eq_false, if_neg (by decide), if_neg (by decide)]
  unfold cmpN
  split
  · rfl
  · split <;> rfl

theorem or_some (x y : Int) : cmp_Or_int.f 3 [x, y] = some (if x = 0 then y else x) := by
  unfold cmp_Or_int.f
  have e1 : wrap64 ((0 : Int) + 1) = 1 := by unfold wrap64; omega
  have e2 : wrap64 ((1 : Int) + 1) = 2 := by unfold wrap64; omega
  have r0 : rd [x, y] 0 = x := rfl
  have r1 : rd [x, y] 1 = y := rfl
  have hl : (([x, y] : List Int).length : Int) = 2 := rfl
  rw [cmp_Or_int.l0, hl, if_pos (by decide), if_pos (by decide), if_pos (by decide), r0, e1]
  by_cases hx : x = 0
  · rw [if_pos hx, if_pos hx, cmp_Or_int.l0, hl, if_pos (by decide), if_pos (by decide), if_pos (by decide), r1, e2]
    by_cases hy : y = 0
    · rw [if_pos hy, cmp_Or_int.l0, if_neg (by decide), hy]
    · rw [if_neg hy]
  · rw [if_neg hx, if_neg hx]

theorem or_calls (x y : Int) (W : World) (g e : Nat) (h : W.heap[g]? = some (.cells #[.int .i64 x, .int .i64 y] e (0, 0))) :
    Calls Tryd.prog 31 #[.slice (some ⟨g, 0, none⟩) 2 2] W fun e w' => e = .returned (.int .i64 (if x = 0 then y else x)) ∧ Drawn0 W w' := by
  refine cmp_Or_int.calls 3 (some ⟨g, 0, none⟩) 2 [x, y] _ W ?_ (Nat.le_refl _) (or_some x y)
  refine Kd.C_of_reads (d := (0 : Int)) (h1 := fun _ => rfl) ⟨rfl, by simp, fun _ => ⟨_, rfl, fun j hj => ?_⟩⟩
  rw [show (⟨g, 0, none⟩ : Addr).add j = ⟨g, j, none⟩ from YtdofoopnjmbmcaaDoorW.PrintWords.add_plain _ _]
  match j, hj with
  | 0, _ => simp [World.cell?, h]
  | 1, _ => simp [World.cell?, h]
  | j + 2, hj => simp at hj; omega

set_option maxRecDepth 100000 in
set_option maxHeartbeats 2000000 in
theorem order_calls (ab : Bool) (an : Int) (at_ : ByteArray) (bb : Bool) (bn : Int) (bt_ : ByteArray) (w : World) :
    Calls Tryd.prog 22 #[.agg #[.bool ab, .int .u64 an, .string at_], .agg #[.bool bb, .int .u64 bn, .string bt_]] w fun e w' => e = .returned (.int .i64 (orderP ⟨ab, an, at_⟩ ⟨bb, bn, bt_⟩)) ∧ Below w.heap.size w w' := by
  have hu41 := Tryd.underlying41
  by_cases c : ab = bb
  · subst c
    obtain ⟨r, hr⟩ : ∃ r, orderP ⟨ab, an, at_⟩ ⟨ab, bn, bt_⟩ = r := ⟨_, rfl⟩
    rw [hr]
    have hr2 : (if cmpN an bn = 0 then Lib.compareBytes at_.data.toList bt_.data.toList else cmpN an bn) = r := by
      rw [← hr]; unfold orderP; dsimp only; rw [bne_self_eq_false, if_neg (show ¬ (false = true) by decide)]
    have H32 := Aside0.mk (cmp64_some an bn)
    obtain ⟨x, hx⟩ : ∃ x, cmpN an bn = x := ⟨_, rfl⟩
    rw [hx] at H32 hr2
    have H33 := Aside0.mk (fun w => Tryd.strings_Compare at_ bt_ w)
    obtain ⟨y, hy⟩ : ∃ y, Lib.compareBytes at_.data.toList bt_.data.toList = y := ⟨_, rfl⟩
    rw [hy] at H33 hr2
    have HOR := Aside0.mk (fun (W : World) (g e : Nat) h => or_calls x y W g e h)
    rw [hr2] at HOR
    clear hr hr2 hx hy
    go_enter Tryd.func22, Tryd.ntmps22
    go_wp2_with fail
    go_region_held3 (fun w' => w'.cell? ⟨w.heap.size, 1, none⟩ = some (.int .u64 an) ∧ w'.cell? ⟨w.heap.size, 2, none⟩ = some (.string at_) ∧ w'.cell? ⟨w.heap.size + 1, 1, none⟩ = some (.int .u64 bn) ∧ w'.cell? ⟨w.heap.size + 1, 2, none⟩ = some (.string bt_)) (go_keep)
      (first | (go_at_call 32; (with_reducible refine (cmp_Compare_uint64.calls _ _ _ _ H32.out).mono ?_); rintro e w' ⟨rfl, ⟨nd, rfl⟩⟩) | (go_at_call 33; (with_reducible refine (H33.out _).mono ?_); rintro e w' ⟨rfl, hw9⟩; have hw8 := hw9.symm; subst hw8; clear hw9) | (go_at_call 31; (with_reducible refine (HOR.out _ _ 3 ?_).mono ?_); (exact new_at (size_two _ _ _ _)); rintro e w' ⟨rfl, ⟨ne, rfl⟩⟩))
    all_goals go_wp2
    all_goals go_ret
    all_goals exact ⟨rfl, by repeat (first | exact Below.refl _ _ | apply pw_below_drewN | apply below_drew1 | apply below_alloc)⟩
  · have d1 : (ab != bb) = true := bne_iff_ne.2 c
    cases bb with
    | true =>
      obtain rfl : ab = false := by cases ab; rfl; exact absurd rfl c
      go_enter Tryd.func22, Tryd.ntmps22
      go_wp2
      go_ret
      exact ⟨rfl, ((Below.refl _ _).alloc (Nat.le_refl _) _).alloc (by simp) _⟩
    | false =>
      obtain rfl : ab = true := by cases ab; exact absurd rfl c; rfl
      go_enter Tryd.func22, Tryd.ntmps22
      go_wp2
      go_ret
      exact ⟨rfl, ((Below.refl _ _).alloc (Nat.le_refl _) _).alloc (by simp) _⟩

/-- How two lists of parts stand. -/
def compareL : List S41 → List S41 → Int
  | [], [] => 0
  | [], _ :: _ => -1
  | _ :: _, [] => 1
  | a :: r, b :: t => if orderP a b = 0 then compareL r t else orderP a b

theorem rd_T41_drop (l : List S41) (i : Nat) (h : i < l.length) : l.drop i = rd_T41 l (i : Int) :: l.drop (i + 1) := by
  rw [List.drop_eq_getElem_cons h]
  congr 1
  unfold rd_T41
  rw [Int.toNat_natCast, List.getD_eq_getElem?_getD, List.getElem?_eq_getElem h]
  rfl

set_option maxRecDepth 100000 in
set_option maxHeartbeats 4000000 in
theorem compareFunc_calls (A0 : Option Addr) (c0 : Nat) (l0 : List S41) (A1 : Option Addr) (c1 : Nat) (l1 : List S41) (w : World) (hr0 : Kd.C k41 w A0 l0.length l0) (hr1 : Kd.C k41 w A1 l1.length l1) (hl0 : l0.length ≤ 140737488355328) (hl1 : l1.length ≤ 140737488355328) :
    Calls Tryd.prog 21 #[.slice A0 l0.length c0, .slice A1 l1.length c1, .func (.func 22) #[] #[]] w fun e w' => e = .returned (.int .i64 (compareL l0 l1)) ∧ Below w.heap.size w w' := by
  have hu41 := Tryd.underlying41
  have HR0 := Aside0.mk hr0
  have HR1 := Aside0.mk hr1
  have HBW := Aside0.mk (Below.refl w.heap.size w)
  obtain ⟨R, hR⟩ : ∃ R, compareL l0 l1 = R := ⟨_, rfl⟩
  have HR := Aside0.mk hR
  rw [hR]
  clear hr0 hr1 hR
  go_enter Tryd.func21, Tryd.ntmps21
  go_wp2_with fail
  go_loopw [13] (fun v13 wr => ∃ i : Nat, v13 = .int .i64 (i : Int) ∧ i ≤ l0.length ∧ i ≤ l1.length ∧ Aside0 (compareL (l0.drop i) (l1.drop i) = R) ∧ Aside0 (Below w.heap.size w wr)) (fun v13 _ => l0.length - (intOf v13).toNat)
  case atStart => exact ⟨0, rfl, Nat.zero_le _, Nat.zero_le _, HR, HBW⟩
  case round =>
    obtain ⟨i, rfl, hi0, hi1, HT, HB⟩ := hrel
    have hz := HB.out.size
    by_cases h0 : i < l0.length
    · have d0 : decide ((i : Int) < (l0.length : Int)) = true := decide_eq_true (by omega)
      have d0' : decide (i < l0.length) = true := decide_eq_true h0
      have p0 : (0 : Int) ≤ (i : Int) := Int.natCast_nonneg i
      have p1 : (i : Int) < (l0.length : Int) := by omega
      obtain ⟨ad, e, a0', a1', a2'⟩ := at_T41 HR0.out (i : Int) p0 p1
      cases e
      have hd0 := rd_T41_drop l0 i h0
      obtain ⟨x, hx⟩ : ∃ x, rd_T41 l0 (i : Int) = x := ⟨_, rfl⟩
      rw [hx, Int.toNat_natCast] at a0' a1' a2'
      rw [hx] at hd0
      replace a0' := (HB.out.cell (World.block_lt_of_cell? w _ a0')).trans a0'
      replace a1' := (HB.out.cell (World.block_lt_of_cell? w _ a1')).trans a1'
      replace a2' := (HB.out.cell (World.block_lt_of_cell? w _ a2')).trans a2'
      obtain ⟨xb, xn, xt⟩ := x
      by_cases h1 : i < l1.length
      · have e0 : decide ((l1.length : Int) ≤ (i : Int)) = false := decide_eq_false (by omega)
        have e0' : decide (l1.length ≤ i) = false := decide_eq_false (by omega)
        have q1 : (i : Int) < (l1.length : Int) := by omega
        obtain ⟨bd, e, b0', b1', b2'⟩ := at_T41 HR1.out (i : Int) p0 q1
        cases e
        have hd1 := rd_T41_drop l1 i h1
        obtain ⟨y, hy⟩ : ∃ y, rd_T41 l1 (i : Int) = y := ⟨_, rfl⟩
        rw [hy, Int.toNat_natCast] at b0' b1' b2'
        rw [hy] at hd1
        replace b0' := (HB.out.cell (World.block_lt_of_cell? w _ b0')).trans b0'
        replace b1' := (HB.out.cell (World.block_lt_of_cell? w _ b1')).trans b1'
        replace b2' := (HB.out.cell (World.block_lt_of_cell? w _ b2')).trans b2'
        have f0 := World.block_lt_of_cell? wr _ b0'
        have f1 := World.block_lt_of_cell? wr _ b1'
        have f2 := World.block_lt_of_cell? wr _ b2'
        obtain ⟨yb, yn, yt⟩ := y
        have hct := HT.out
        rw [hd0, hd1, compareL] at hct
        obtain ⟨q, hq⟩ : ∃ q, orderP ⟨xb, xn, xt⟩ ⟨yb, yn, yt⟩ = q := ⟨_, rfl⟩
        have HO := Aside0.mk (fun W => order_calls xb xn xt yb yn yt W)
        rw [hq] at HO hct
        have H0 := Aside0.mk h0
        have H1 := Aside0.mk h1
        clear hd0 hd1 hx hy hq HT h0 h1
        by_cases hq0 : q = 0
        · rw [if_pos hq0] at hct
          subst hq0
          have HCT := Aside0.mk hct
          clear hct
          go_wp2_with (go_at_call 22; (with_reducible refine (HO.out _).mono ?_); rintro e w' ⟨rfl, hb⟩; have HBN := Aside0.mk (below_step (((HB.out.alloc hz _)).alloc (by simp; omega) _) hb); clear hb)
          go_roundw
          case rel => exact ⟨i + 1, by go_num, by have := H0.out; omega, by have := H1.out; omega, HCT, HBN⟩
          case measure => have := H0.out; simp [intOf] <;> omega
        · rw [if_neg hq0] at hct
          have g1 : (q != 0) = true := bne_iff_ne.2 hq0
          have g2 : (q == 0) = false := beq_eq_false_iff_ne.2 hq0
          subst hct
          clear hq0
          go_wp2_with (go_at_call 22; (with_reducible refine (HO.out _).mono ?_); rintro e w' ⟨rfl, hb⟩; have HBN := Aside0.mk (below_step (((HB.out.alloc hz _)).alloc (by simp; omega) _) hb); clear hb)
          go_ret
          exact ⟨rfl, HBN.out⟩
      · have e0 : decide ((l1.length : Int) ≤ (i : Int)) = true := decide_eq_true (by omega)
        have e0' : decide (l1.length ≤ i) = true := decide_eq_true (by omega)
        have hct := HT.out
        rw [hd0, List.drop_eq_nil_of_le (show l1.length ≤ i by omega), compareL] at hct
        subst hct
        clear hd0 hx HT h0 h1
        go_wp2
        go_ret
        exact ⟨rfl, HB.out.alloc hz _⟩
    · obtain rfl : i = l0.length := by omega
      have d0 : decide ((l0.length : Int) < (l0.length : Int)) = false := decide_eq_false (by omega)
      have hct := HT.out
      rw [List.drop_eq_nil_of_le (Nat.le_refl _)] at hct
      by_cases h1 : l0.length < l1.length
      · have e1 : decide ((l0.length : Int) < (l1.length : Int)) = true := decide_eq_true (by omega)
        have e1' : decide (l0.length < l1.length) = true := decide_eq_true h1
        rw [rd_T41_drop l1 l0.length h1, compareL] at hct
        subst hct
        clear HT h0 h1
        go_wp2
        go_ret
        exact ⟨rfl, HB.out⟩
      · have e1 : decide ((l0.length : Int) < (l1.length : Int)) = false := decide_eq_false (by omega)
        have e1' : decide (l0.length < l1.length) = false := decide_eq_false h1
        rw [List.drop_eq_nil_of_le (by omega), compareL] at hct
        subst hct
        clear HT h0 h1
        go_wp2
        go_ret
        exact ⟨rfl, HB.out⟩

def keys_Compare.f (l0 l1 : List S41) : Option Int := if l0.length ≤ 140737488355328 ∧ l1.length ≤ 140737488355328 then some (compareL l0 l1) else none

set_option maxHeartbeats 1000000 in
theorem keys_Compare.calls (A0 : Option Addr) (c0 : Nat) (l0 : List S41) (A1 : Option Addr) (c1 : Nat) (l1 : List S41) (r : Int) (w : World) (hr0 : Kd.C k41 w A0 l0.length l0) (hc0 : l0.length ≤ c0) (hr1 : Kd.C k41 w A1 l1.length l1) (hc1 : l1.length ≤ c1) (h : keys_Compare.f l0 l1 = some r) :
    Calls Tryd.prog 11 #[.slice A0 l0.length c0, .slice A1 l1.length c1] w fun e w' => e = .returned (.int .i64 r) ∧ Below w.heap.size w w' := by
  unfold keys_Compare.f at h
  by_cases c : l0.length ≤ 140737488355328 ∧ l1.length ≤ 140737488355328
  · rw [if_pos c] at h
    have HI := Aside0.mk (compareFunc_calls A0 c0 l0 A1 c1 l1 w hr0 hr1 c.1 c.2)
    obtain rfl := Option.some.inj h
    obtain ⟨q, hq⟩ : ∃ q, compareL l0 l1 = q := ⟨_, rfl⟩
    rw [hq] at HI ⊢
    clear hq hr0 hr1 h c hc0 hc1
    go_enter Tryd.func11, Tryd.ntmps11
    go_wp2_with (go_at_call 21; (with_reducible refine HI.out.mono ?_); rintro e w' ⟨rfl, hb⟩; have HB := Aside0.mk hb; clear hb)
    go_ret
    exact ⟨rfl, HB.out⟩
  · rw [if_neg c] at h
    cases h
end Go.Proofs.YtdofoopnjmbmcaaDoor.HandF
