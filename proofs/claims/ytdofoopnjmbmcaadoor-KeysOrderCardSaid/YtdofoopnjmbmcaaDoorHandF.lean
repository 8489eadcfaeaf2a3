/- A contract by hand: keys.first. -/
import Derived.Test.YtdofoopnjmbmcaaDoorPieces
import Derived.WalkMore
namespace Go.Proofs.YtdofoopnjmbmcaaDoor.HandF
set_option linter.unusedVariables false
set_option linter.unusedSimpArgs false
open Go.RowKit Go.Shelf Go.Proofs.YtdofoopnjmbmcaaDoor.X Go.Proofs.YtdofoopnjmbmcaaDoor.Blocks Go.Proofs.YtdofoopnjmbmcaaDoor.Range Go.Proofs.YtdofoopnjmbmcaaDoor.Orders
open Go.Proofs.YtdofoopnjmbmcaaDoorW.PrintWords Go.Proofs.YtdofoopnjmbmcaaDoorW.PrintLast Go.Proofs.YtdofoopnjmbmcaaDoorW.PrintMore
attribute [local go_sem] Oper.semAt_some

/-- A scope that holds a label, walked through without a jump, behind a fence. -/
theorem wpIn_scope_straight {F : Fence} {n : Nat} {P : Program} {Q : Exit → Act → World → Prop} {a : Act} {w : World} {c : Code} (h : c.wpIn F n P (Exit.noGoto Q) a w) : (Code.scope c).wpIn F n P Q a w := by
  intro b k cs hro hb hr
  have h0 : (lone (b.atR a (.code (.scope c) :: k)) cs w).fenced P F := fenced_calm hb hr rfl
  have s0 : step P (lone (b.atR a (.code (.scope c) :: k)) cs w) = .next (lone (b.atR a (.code c :: .inScope c :: k)) cs w) := step_lone_go (by simp [stepG, stepG.exec, Frame.atR])
  obtain ⟨e, a₁, w₁, hq, harr⟩ := h b (.inScope c :: k) cs hro hb hr
  cases e with
  | normal => exact ⟨.normal, a₁, w₁, hq, .head h0 s0 (StepsIn.trans harr (.one (fenced_calm hb hr rfl) (step_lone_go (by simp [stepG, stepG.exec, Frame.atR]))))⟩
  | exit id =>
    have hx : exitTo id (.inScope c :: k) = exitTo id k := by simp [exitTo]
    exact ⟨.exit id, a₁, w₁, hq, fun k' hk => .head h0 s0 (harr.1 k' (by rw [hx]; exact hk)), fun hr' hk => let ⟨k₁, h1, h2⟩ := harr.2 hr' (by rw [hx]; exact hk); ⟨k₁, h1, .head h0 s0 h2⟩⟩
  | goto l => exact hq.elim
  | ret => exact ⟨_, a₁, w₁, hq, .of_steps (.one h0 s0) harr⟩
  | panic ch => exact ⟨_, a₁, w₁, hq, .of_steps (.one h0 s0) harr⟩
  | outgrown => exact ⟨_, a₁, w₁, hq, .of_steps (.one h0 s0) harr⟩

/-- The number that eight bytes behind the first are. -/
def numN (s : ByteArray) : Nat → Int
  | 0 => 0
  | i + 1 => Go.bits .or .u64 (IntKind.u64.wrap (numN s i * 256)) (IntKind.u64.wrap (bt s (1 + (i : Int))))
/-- A text part's bytes, up to the end mark; how many were read; was it the right mark. -/
def foldP : List (Int × Int) → List Int → Int → Option (List Int × Int × Bool)
  | [], _, _ => none
  | (c, d) :: r, xs, n => if c = 0 then (if d = 255 then foldP r (xs ++ [c]) (n + 2) else some (xs, n + 2, decide (d = 1))) else foldP r (xs ++ [c]) (n + 1)
def firstT (s : ByteArray) : Option (List Int × Int × Bool) := foldP (piecesL (bytesOf (s.extract 1 s.size))) [] 1
def keys_first.f (a0 : ByteArray) : Option (Bool × Int × ByteArray × Int) :=
  if 0 < a0.size ∧ a0.size ≤ 140737488351232 then
    (if bt a0 0 = 1 ∧ 9 ≤ a0.size then some (false, numN a0 8, ⟨#[]⟩, 9)
     else if bt a0 0 = 2 then (match firstT a0 with | some (xs, n, true) => some (true, 0, strOfNums xs, n) | _ => some (false, 0, ⟨#[]⟩, 0))
     else some (false, 0, ⟨#[]⟩, 0))
  else none

theorem piecesL_length : ∀ (m : Nat) (l : List Int), l.length ≤ m → (piecesL l).length ≤ l.length
  | 0, l, h => by rw [piecesL_short (by omega)]; simp
  | m + 1, l, h => by
    match l, h with
    | [], _ => simp [piecesL]
    | [_], _ => simp [piecesL]
    | c :: d :: r, h =>
      simp only [List.length_cons] at h
      rw [piecesL]
      by_cases hc : c = 0
      · rw [if_pos hc]
        have := piecesL_length m r (by omega)
        simp only [List.length_cons]; omega
      · rw [if_neg hc]
        have := piecesL_length m (d :: r) (by simp only [List.length_cons]; omega)
        simp only [List.length_cons] at this ⊢; omega

theorem pieces_calls (n : Nat) (s : ByteArray) (w : World) :
    CallsIn Fence.wide n Tryd.prog 35 #[.string s] w fun e w' =>
      e = .returned (.func (.func 45) #[] #[.pointer (some ⟨w.heap.size, 0, none⟩)]) ∧ w' = w.alloc (.cells #[.string s] 9) := by
  refine callsIn_of_wp Tryd.func35 rfl trivial ?_ rfl
  simp only [Tryd.ntmps35, List.size_toArray, List.length_cons, List.length_nil, Nat.reduceAdd, Nat.reduceSub, Array.replicate_succ, Array.replicate_zero, List.push_toArray, List.append_toArray, List.nil_append, List.cons_append]
  gi_wp2
  go_ret
  exact ⟨rfl, rfl⟩

theorem info5 : (Tryd.prog.info? 5).map (fun i => (i.zero, i.size, i.bytes)) = some (some (.int .u8 0), 1, 1) := by kernel_rfl

theorem typed_grown {W W' : World} {row : Option Nat} (hg : W.grownBy W' row) (hr : ∀ r, row = some r → ∃ o : Obj, W.heap[r]? = some o ∧ o.isCells = false) : KeepsTy [] W W' :=
  KeepsTy.of_grownBy_other hg hr
theorem owns_keeps {W W' : World} {ts : List Nat} (hk : KeepsTy ts W W') {base e size n : Nat} (he : e ∉ ts) {v : Value} {xs : List Value}
    (h : W.ownsRow base e size v n xs) : W'.ownsRow base e size v n xs :=
  own_move h fun k hkk => by
    obtain ⟨c, hc⟩ := own_block h k hkk
    exact (hk _ _ _ _ he hc).trans hc.symm
theorem set_one {W : World} {b t : Nat} {x u : Value} (h : W.heap[b]? = some (.cells #[x] t (0, 0))) : (W.setCell ⟨b, 0, none⟩ u).heap[b]? = some (.cells #[u] t (0, 0)) := one_setCell h

/-- What stands between two rounds. -/
def FirstI (B : Nat) (w0 : World) (xs : List Int) (n : Int) (b : Bool) (W : World) : Prop :=
  (∃ sv, W.heap[B + 1]? = some (.cells #[sv] 45 (0, 0)) ∧ W.ownsRow B 5 1 sv xs.length (nums .u8 xs)) ∧ W.heap[B + 2]? = some (.cells #[.int .i64 n] 3 (0, 0)) ∧ W.heap[B + 3]? = some (.cells #[.bool b] 4 (0, 0)) ∧
    W.heap[B]? = some (.cells #[.bool false, .int .u64 0, .string (⟨#[]⟩ : ByteArray)] 41 (0, 0)) ∧ (∃ c fr, W.heap[B + 4]? = some (.cells c 9 fr)) ∧ Below B w0 W

theorem FirstI.keeps {B : Nat} {w0 W W' : World} {xs : List Int} {n : Int} {b : Bool} (h : FirstI B w0 xs n b W) (hk : KeepsTy [] W W') (hb : Below B w0 W') : FirstI B w0 xs n b W' := by
  obtain ⟨⟨sv, h1, h2⟩, h3, h4, h5, ⟨c, fr, h6⟩, h7⟩ := h
  exact ⟨⟨sv, hk _ _ _ _ (by simp) h1, owns_keeps hk (by simp) h2⟩, hk _ _ _ _ (by simp) h3, hk _ _ _ _ (by simp) h4, hk _ _ _ _ (by simp) h5, ⟨c, fr, hk _ _ _ _ (by simp) h6⟩, hb⟩
theorem FirstI.grown {B : Nat} {w0 W W' : World} {xs : List Int} {n : Int} {b : Bool} (h : FirstI B w0 xs n b W) {C : Nat} (hC : B ≤ C) {row : Option Nat} (hg : W.grownBy W' row)
    (hr : ∀ r, row = some r → C ≤ r ∧ ∃ o : Obj, W.heap[r]? = some o ∧ o.isCells = false) : FirstI B w0 xs n b W' :=
  h.keeps (typed_grown hg (fun r e => (hr r e).2)) (h.2.2.2.2.2.grown hg (by have := lt_of h.2.2.2.1; omega) (fun k e => Nat.le_trans hC (hr k e).1))
theorem FirstI.step {B : Nat} {w0 W W' : World} {xs : List Int} {n : Int} {b : Bool} (h : FirstI B w0 xs n b W) (hst : PieceStep (B + 4) W W') : FirstI B w0 xs n b W' := by
  obtain ⟨x, hx⟩ := hst
  obtain ⟨⟨sv, h1, h2⟩, h3, h4, h5, ⟨c, fr, h6⟩, h7⟩ := h
  have hk : KeepsTy [9] W W' := by
    rcases hx with rfl | rfl
    · exact KeepsTy.setCell h6 (by simp) 0 x
    · exact (KeepsTy.setCell h6 (by simp) 0 x).trans (KeepsTy.drew _ _)
  have hb : Below B w0 W' := by
    rcases hx with rfl | rfl
    · exact h7.setCell (p := ⟨B + 4, 0, none⟩) (by simp) x
    · exact (h7.setCell (p := ⟨B + 4, 0, none⟩) (by simp) x).drew
  have h6' : ∃ c fr, W'.heap[B + 4]? = some (.cells c 9 fr) := by
    obtain ⟨c', h6'⟩ := set_typed h6 0 x
    rcases hx with rfl | rfl
    · exact ⟨c', fr, h6'⟩
    · exact ⟨c', fr, h6'⟩
  exact ⟨⟨sv, hk _ _ _ _ (by simp) h1, owns_keeps hk (by simp) h2⟩, hk _ _ _ _ (by simp) h3, hk _ _ _ _ (by simp) h4, hk _ _ _ _ (by simp) h5, h6', hb⟩

/-- A byte is appended. -/
theorem append_fin {B : Nat} {w0 W2 w1 : World} {xs : List Int} {n c : Int} {b : Bool} {sv v1 : Value} (h6 : W2.heap[B + 1]? = some (.cells #[sv] 45 (0, 0))) (hown : W2.ownsRow B 5 1 sv xs.length (nums .u8 xs))
    (h7 : W2.heap[B + 2]? = some (.cells #[.int .i64 n] 3 (0, 0))) (h8 : W2.heap[B + 3]? = some (.cells #[.bool b] 4 (0, 0))) (hz : W2.heap[B]? = some (.cells #[.bool false, .int .u64 0, .string (⟨#[]⟩ : ByteArray)] 41 (0, 0)))
    (hs : ∃ cs fr, W2.heap[B + 4]? = some (.cells cs 9 fr)) (hbel : Below B w0 W2)
    (hown1 : w1.ownsRow B 5 1 v1 (xs.length + 1) (nums .u8 xs ++ [.int .u8 c])) (hg1 : (W2.alloc (.cells #[.int .u8 c] 5)).grownBy w1 sv.ownBlock) :
    w1.heap[B + 1]? = some (.cells #[sv] 45 (0, 0)) ∧ FirstI B w0 (xs ++ [c]) n b (w1.setCell ⟨B + 1, 0, none⟩ v1) ∧ KeepsOthers W2 (w1.setCell ⟨B + 1, 0, none⟩ v1) ∧ KeepsTy [45, 3, 4, 5] W2 (w1.setCell ⟨B + 1, 0, none⟩ v1) := by
  obtain ⟨cs, fr, hs⟩ := hs
  have hbs : B ≤ W2.heap.size := by have := lt_of h6; omega
  have hoa := hown.alloc (.cells #[.int .u8 c] 5)
  have hkT : KeepsTy [5] W2 w1 := (KeepsTy.alloc [5] W2 _).trans (KeepsTy.of_grownBy hg1 (fun j hj => by
    obtain ⟨cb, hcb⟩ := own_block hoa j hj
    exact ⟨cb, 5, (0, 0), by simp, hcb⟩))
  have b6 := hkT _ _ _ _ (by simp) h6
  have hkS : KeepsTy [45] w1 (w1.setCell ⟨B + 1, 0, none⟩ v1) := KeepsTy.setCell b6 (by simp) 0 _
  have hbe1 : Below B w0 w1 := (hbel.alloc hbs _).grown hg1 (by simp; omega) (own_base hoa)
  have hko : KeepsOthers W2 w1 := (KeepsOthers.alloc _ _).trans (others_grown hg1 (fun j hj => by
    obtain ⟨cb, hcb⟩ := own_block hoa j hj
    exact ⟨cb, 5, (0, 0), hcb⟩))
  refine ⟨b6, ⟨⟨_, set_one b6, ?_⟩, hkS _ _ _ _ (by simp) (hkT _ _ _ _ (by simp) h7), hkS _ _ _ _ (by simp) (hkT _ _ _ _ (by simp) h8), hkS _ _ _ _ (by simp) (hkT _ _ _ _ (by simp) hz), ⟨_, _, hkS _ _ _ _ (by simp) (hkT _ _ _ _ (by simp) hs)⟩, hbe1.setCell (p := ⟨B + 1, 0, none⟩) (by simp) _⟩,
    hko.trans (others_set _ _ _), fun k cc t fr ht h => hkS k cc t fr (by simp at ht ⊢; exact ht.1) (hkT k cc t fr (by simp at ht ⊢; exact ht.2.2.2) h)⟩
  rw [List.length_append, nums_append]
  exact owns_keeps hkS (by simp) hown1

/-- At a round's head. -/
def FirstK (B : Nat) (w0 : World) (L : List (Int × Int)) (k : Nat) (W : World) : Prop :=
  ∃ xs n, FirstI B w0 xs n false W ∧ foldP (L.drop k) xs n = foldP L [] 1 ∧ xs.length = k ∧ 1 ≤ n ∧ n ≤ 1 + 2 * (k : Int)
/-- Where the end mark was met. -/
def FirstX (B : Nat) (w0 : World) (L : List (Int × Int)) (c : Code) (W : World) : Prop :=
  c = .exit 3 ∧ ∃ xs n b, FirstI B w0 xs n b W ∧ foldP L [] 1 = some (xs, n, b) ∧ xs.length ≤ L.length ∧ 1 ≤ n ∧ n ≤ 1 + 2 * (L.length : Int)

theorem first_leaves {R : Ending → World → Prop} {a : Act} {w : World} {g : Nat} {r1 : Bool} {r2 : Int} {r3 : ByteArray} {r4 : Int}
    (hd : a.defers = []) (hp : a.tmps.getD 2 undef = .pointer (some ⟨g, 0, none⟩)) (hn : a.tmps.getD 3 undef = .int .i64 r4) (hg : w.heap[g]? = some (.cells #[.bool r1, .int .u64 r2, .string r3] 41 (0, 0)))
    (hR : R (.returned (.tuple #[.agg #[.bool r1, .int .u64 r2, .string r3], .int .i64 r4])) w) : Exit.noGoto (bodyPostM Fence.wide 3 Tryd.prog Tryd.f25 R) .ret a w := by
  show LeavesInM Fence.wide 3 Tryd.prog Tryd.f25 a.tmps R a.defers .returning w
  rw [hd]
  exact ⟨_, results_ct (P := Tryd.prog) (fn := Tryd.f25) rfl a.tmps w g 41 #[.bool r1, .int .u64 r2, .string r3] (0, 0) _ hp hg Tryd.underlying41 rfl (by kernel_rfl), by rw [hn]; exact hR⟩
/-- The same behind the range's mark. -/
theorem first_leaves1 {R : Ending → World → Prop} {a : Act} {w : World} {g D : Nat} {r1 : Bool} {r2 : Int} {r3 : ByteArray} {r4 : Int}
    (hd : a.defers = [{ target := .collected D, args := #[] }]) (hD : w.heap[D]? = some (.deferred (some []))) (hp : a.tmps.getD 2 undef = .pointer (some ⟨g, 0, none⟩)) (hn : a.tmps.getD 3 undef = .int .i64 r4) (hg : w.heap[g]? = some (.cells #[.bool r1, .int .u64 r2, .string r3] 41 (0, 0)))
    (hR : R (.returned (.tuple #[.agg #[.bool r1, .int .u64 r2, .string r3], .int .i64 r4])) (w.putObj D (.deferred none))) : Exit.noGoto (bodyPostM Fence.wide 3 Tryd.prog Tryd.f25 R) .ret a w := by
  show LeavesInM Fence.wide 3 Tryd.prog Tryd.f25 a.tmps R a.defers .returning w
  rw [hd]
  refine ⟨by simp, .inl ⟨D, _, rfl, run_takeDeferred hD, ?_⟩⟩
  have hg2 := (KeepsTy.putObj (ts := []) (.deferred none) hD rfl) _ _ _ _ (by simp) hg
  exact ⟨_, results_ct (P := Tryd.prog) (fn := Tryd.f25) rfl a.tmps _ g 41 #[.bool r1, .int .u64 r2, .string r3] (0, 0) _ hp hg2 Tryd.underlying41 rfl (by kernel_rfl), by rw [hn]; exact hR⟩

set_option maxRecDepth 100000 in
set_option maxHeartbeats 4000000 in
theorem keys_first.calls (a0 : ByteArray) (r1 : Bool) (r2 : Int) (r3 : ByteArray) (r4 : Int) (w : World) (h : keys_first.f a0 = some (r1, r2, r3, r4)) :
    Calls Tryd.prog 25 #[.string a0] w fun e w' => e = .returned (.tuple #[.agg #[.bool r1, .int .u64 r2, .string r3], .int .i64 r4]) ∧ Below w.heap.size w w' := by
  unfold keys_first.f at h
  by_cases hs : 0 < a0.size ∧ a0.size ≤ 140737488351232
  case neg => rw [if_neg hs] at h; cases h
  rw [if_pos hs] at h
  obtain ⟨hz, hmax⟩ := hs
  have H := Aside0.mk h
  clear h
  refine (callsIn_wide (n := 3)).1 ?_
  have q0 : (0 : Int) < (a0.size : Int) := by omega
  have q1 : (1 : Int) ≤ (a0.size : Int) := by omega
  have hx0 : ((a0[0]'hz).toNat : Int) = bt a0 0 := bt_at a0 0 hz
  refine callsIn_of_wp_marks Tryd.func25 rfl trivial ?_ rfl
  simp only [Tryd.ntmps25, List.size_toArray, List.length_cons, List.length_nil, Nat.reduceAdd, Nat.reduceSub, Array.replicate_succ, Array.replicate_zero, List.push_toArray, List.append_toArray, List.nil_append, List.cons_append]
  by_cases c1 : bt a0 0 = 1
  · have e1 : (bt a0 0 == 1) = true := beq_iff_eq.2 c1
    have c2 : bt a0 0 ≠ 2 := by omega
    by_cases c9 : 9 ≤ a0.size
    · have d9 : decide ((9 : Int) ≤ (a0.size : Int)) = true := decide_eq_true (by omega)
      have d9' : decide (9 ≤ a0.size) = true := decide_eq_true c9
      rw [if_pos ⟨c1, c9⟩] at H
      gi_wp2
      refine wpIn_scope_straight ?_
      obtain ⟨W0, hW0⟩ : ∃ W0, w.alloc (.cells #[.bool false, .int .u64 0, .string (⟨#[]⟩ : ByteArray)] 41) = W0 := ⟨_, rfl⟩
      have hB2 : W0.heap[w.heap.size]? = some (.cells #[.bool false, .int .u64 0, .string (⟨#[]⟩ : ByteArray)] 41 (0, 0)) := by rw [← hW0]; exact alloc_new w _
      have HB := Aside0.mk (show Below w.heap.size w W0 by rw [← hW0]; exact (Below.refl _ _).alloc (Nat.le_refl _) _)
      have HB2 := Aside0.mk hB2
      rw [hW0]
      clear hW0 hB2
      gi_wp2
      gi_loopw [4, 20] (fun v4 v20 wr => ∃ i : Nat, v4 = .int .u64 (numN a0 i) ∧ v20 = .int .i64 (i : Int) ∧ i ≤ 8 ∧ wr = W0) (fun _ v20 _ => 8 - (intOf v20).toNat)
      case atStart => exact ⟨0, rfl, rfl, by omega, rfl⟩
      case round =>
        obtain ⟨i, rfl, rfl, hi, rfl⟩ := hrel
        by_cases h8 : i < 8
        · have d8 : decide ((i : Int) < 8) = true := decide_eq_true (by omega)
          have p1 : (0 : Int) ≤ 1 + (i : Int) := by omega
          have p2 : (1 + (i : Int)) < (a0.size : Int) := by omega
          have hxi := bt_at a0 (1 + (i : Int))
          have hnum : numN a0 (i + 1) = Go.bits .or .u64 (IntKind.u64.wrap (numN a0 i * 256)) (IntKind.u64.wrap (bt a0 (1 + (i : Int)))) := rfl
          gi_wp2
          refine ⟨⟨i + 1, by rw [hnum], by push_cast; rfl, by omega, trivial⟩, ?_⟩
          simp only [intOf]
          omega
        · have d8 : decide ((i : Int) < 8) = false := decide_eq_false (by omega)
          obtain rfl : i = 8 := by omega
          have hc0 := (blk_cell HB2.out 0).trans rfl
          have hc1 := (blk_cell HB2.out 1).trans rfl
          have hc2 := (blk_cell HB2.out 2).trans rfl
          have hf0 := blk_frozen HB2.out 0
          have hf1 := blk_frozen HB2.out 1
          have hf2 := blk_frozen HB2.out 2
          have hi := H.out
          obtain ⟨rfl, rfl, rfl, rfl⟩ : false = r1 ∧ numN a0 8 = r2 ∧ (⟨#[]⟩ : ByteArray) = r3 ∧ (9 : Int) = r4 := by simpa using hi
          clear hi H
          gi_wp2
          refine first_leaves rfl rfl rfl (blk_put (cs := #[.bool false, .int .u64 (numN a0 8), .string (⟨#[]⟩ : ByteArray)]) (blk_put (cs := #[.bool false, .int .u64 0, .string (⟨#[]⟩ : ByteArray)]) (blk_put (cs := #[.bool false, .int .u64 0, .string (⟨#[]⟩ : ByteArray)]) HB2.out 0 _ rfl) 1 _ rfl) 2 _ rfl) ⟨rfl, ?_⟩
          exact below_set (below_set (below_set HB.out (Nat.le_refl _)) (Nat.le_refl _)) (Nat.le_refl _)
    · have d9 : decide ((9 : Int) ≤ (a0.size : Int)) = false := decide_eq_false (by omega)
      have d9' : decide (9 ≤ a0.size) = false := decide_eq_false c9
      rw [if_neg (fun h => c9 h.2), if_neg c2] at H
      have e2 : (bt a0 0 != 2) = true := bne_iff_ne.mpr c2
      have hi := H.out
      obtain ⟨rfl, rfl, rfl, rfl⟩ : false = r1 ∧ (0 : Int) = r2 ∧ (⟨#[]⟩ : ByteArray) = r3 ∧ (0 : Int) = r4 := by simpa using hi
      clear hi H
      gi_wp2
      refine wpIn_scope_straight ?_
      obtain ⟨W0, hW0⟩ : ∃ W0, w.alloc (.cells #[.bool false, .int .u64 0, .string (⟨#[]⟩ : ByteArray)] 41) = W0 := ⟨_, rfl⟩
      have hB2 : W0.heap[w.heap.size]? = some (.cells #[.bool false, .int .u64 0, .string (⟨#[]⟩ : ByteArray)] 41 (0, 0)) := by rw [← hW0]; exact alloc_new w _
      have HB := Aside0.mk (show Below w.heap.size w W0 by rw [← hW0]; exact (Below.refl _ _).alloc (Nat.le_refl _) _)
      have HB2 := Aside0.mk hB2
      rw [hW0]
      clear hW0 hB2
      have hc0 := (blk_cell HB2.out 0).trans rfl
      have hc1 := (blk_cell HB2.out 1).trans rfl
      have hc2 := (blk_cell HB2.out 2).trans rfl
      have hf0 := blk_frozen HB2.out 0
      have hf1 := blk_frozen HB2.out 1
      have hf2 := blk_frozen HB2.out 2
      gi_wp2
      refine first_leaves rfl rfl rfl (blk_put (cs := #[.bool false, .int .u64 0, .string (⟨#[]⟩ : ByteArray)]) (blk_put (cs := #[.bool false, .int .u64 0, .string (⟨#[]⟩ : ByteArray)]) (blk_put (cs := #[.bool false, .int .u64 0, .string (⟨#[]⟩ : ByteArray)]) HB2.out 0 _ rfl) 1 _ rfl) 2 _ rfl) ⟨rfl, ?_⟩
      exact below_set (below_set (below_set HB.out (Nat.le_refl _)) (Nat.le_refl _)) (Nat.le_refl _)
  · have e1 : (bt a0 0 == 1) = false := beq_eq_false_iff_ne.2 c1
    rw [if_neg (fun h => c1 h.1)] at H
    by_cases c2 : bt a0 0 = 2
    · rw [if_pos c2] at H
      have e2 : (bt a0 0 != 2) = false := bne_eq_false_iff_eq.mpr c2
      gi_wp2
      refine wpIn_scope_straight ?_
      obtain ⟨W0, hW0⟩ : ∃ W0, w.alloc (.cells #[.bool false, .int .u64 0, .string (⟨#[]⟩ : ByteArray)] 41) = W0 := ⟨_, rfl⟩
      have hsz0 : W0.heap.size = w.heap.size + 1 := by rw [← hW0]; simp
      have hB2 : W0.heap[w.heap.size]? = some (.cells #[.bool false, .int .u64 0, .string (⟨#[]⟩ : ByteArray)] 41 (0, 0)) := by rw [← hW0]; exact alloc_new w _
      have HB := Aside0.mk (show Below w.heap.size w W0 by rw [← hW0]; exact (Below.refl _ _).alloc (Nat.le_refl _) _)
      have HB2 := Aside0.mk hB2
      have Hsz0 := Aside0.mk hsz0
      rw [hW0]
      clear hW0 hB2 hsz0
      gi_wp2
      refine wpIn_label ?_
      gi_wp2_with (refine ⟨trivial, ?_⟩; gi_at_call 35; refine (pieces_calls _ _ _).mono ?_; rintro e w' ⟨rfl, rfl⟩)
      obtain ⟨s1, hs1⟩ : ∃ s1, a0.extract 1 a0.size = s1 := ⟨_, rfl⟩
      have hs1z : s1.size ≤ 140737488351232 := by rw [← hs1, ByteArray.size_extract]; omega
      have hT : firstT a0 = foldP (piecesL (bytesOf s1)) [] 1 := by rw [← hs1]; rfl
      have hLl := piecesL_length _ (bytesOf s1) (Nat.le_refl _)
      rw [bytesOf_length] at hLl
      rw [hs1]
      obtain ⟨W4, hW4⟩ : ∃ W4, (((W0.alloc (.cells #[.slice none 0 0] 45)).alloc (.cells #[.int .i64 1] 3)).alloc (.cells #[.bool false] 4)).alloc (.cells #[.string s1] 9) = W4 := ⟨_, rfl⟩
      have hsz0 := Hsz0.out
      have hsz4 : W4.heap.size = w.heap.size + 5 := by rw [← hW4]; simp [hsz0]
      have f0 : W4.heap[w.heap.size]? = some (.cells #[.bool false, .int .u64 0, .string (⟨#[]⟩ : ByteArray)] 41 (0, 0)) := by rw [← hW4]; exact alloc_at (alloc_at (alloc_at (alloc_at HB2.out _) _) _) _
      have f1 : W4.heap[w.heap.size + 1]? = some (.cells #[.slice none 0 0] 45 (0, 0)) := by
        rw [← hW4]; refine alloc_at (alloc_at (alloc_at ?_ _) _) _; have := alloc_new W0 (.cells #[.slice none 0 0] 45); rwa [hsz0] at this
      have f2 : W4.heap[w.heap.size + 2]? = some (.cells #[.int .i64 1] 3 (0, 0)) := by
        rw [← hW4]; refine alloc_at (alloc_at ?_ _) _; have := alloc_new (W0.alloc (.cells #[.slice none 0 0] 45)) (.cells #[.int .i64 1] 3); rwa [World.size_alloc, hsz0] at this
      have f3 : W4.heap[w.heap.size + 3]? = some (.cells #[.bool false] 4 (0, 0)) := by
        rw [← hW4]; refine alloc_at ?_ _; have := alloc_new ((W0.alloc (.cells #[.slice none 0 0] 45)).alloc (.cells #[.int .i64 1] 3)) (.cells #[.bool false] 4); rwa [World.size_alloc, World.size_alloc, hsz0] at this
      have f4 : W4.heap[w.heap.size + 4]? = some (.cells #[.string s1] 9 (0, 0)) := by
        rw [← hW4]; have := alloc_new (((W0.alloc (.cells #[.slice none 0 0] 45)).alloc (.cells #[.int .i64 1] 3)).alloc (.cells #[.bool false] 4)) (.cells #[.string s1] 9); rwa [World.size_alloc, World.size_alloc, World.size_alloc, hsz0] at this
      have hb4 : Below w.heap.size w W4 := by rw [← hW4]; exact (((HB.out.alloc (by omega) _).alloc (by simp; omega) _).alloc (by simp; omega) _).alloc (by simp; omega) _
      rw [hW4]
      simp only [hsz0, Nat.add_assoc, Nat.reduceAdd]
      obtain ⟨L, hL⟩ : ∃ L, piecesL (bytesOf s1) = L := ⟨_, rfl⟩
      rw [hL] at hT hLl
      rw [hT] at H
      have hI0 : FirstK w.heap.size w L 0 W4 := ⟨[], 1, ⟨⟨_, f1, own_nil _ _ _ _⟩, f2, f3, f0, ⟨_, _, f4⟩, hb4⟩, by rw [List.drop_zero], rfl, by omega, by omega⟩
      clear f0 f1 f2 f3 hb4 hW4 HB HB2 hs1 hT
      have hseq : ∀ r : Loop, SeqAt Fence.wide 2 Tryd.prog 45 #[.pointer (some ⟨w.heap.size + 4, 0, none⟩)] (fun x : Int × Int => #[.int .u8 x.1, .int .u8 x.2]) L (KeepsTy [45, 3, 4, 5]) (PieceStep (w.heap.size + 4)) ((W4.alloc (.deferred (some []))).alloc (.loop r)) (W4.heap.size + 1) := fun r => by
        rw [← hL]
        exact pieces1_seq Fence.wide 2 trivial rfl (by omega) (W4.heap.size + 1) (w.heap.size + 4) s1 (by omega) [45, 3, 4, 5] (by simp) _ (alloc_at (alloc_at f4 _) _)
      refine wpIn_rangeFunc_seq rfl (by omega) (gf := 45) (lb := #[.pointer (some ⟨w.heap.size + 4, 0, none⟩)]) rfl trivial (enters_of Tryd.func45 (by kernel_rfl) rfl)
        hseq
        (fun W W' hs => by obtain ⟨x, e⟩ := hs; rcases e with rfl | rfl; exact others_set _ _ _; exact (others_set _ _ _).trans (others_drew _)) (KeepsTy.trans) (fun W l o o' _ h ho => KeepsTy.putObj o' h ho) (fun _ => rfl)
        (fun k W => FirstK w.heap.size w L k W) (fun c W => FirstX w.heap.size w L c W)
        (fun s A B row hs hg hr => by obtain ⟨xs, n, h1, h2⟩ := hs; exact ⟨xs, n, h1.grown (by omega) hg hr, h2⟩) (fun c s A B row hs hg hr => by obtain ⟨h0, xs, n, b, h1, h2⟩ := hs; exact ⟨h0, xs, n, b, h1.grown (by omega) hg hr, h2⟩)
        (fun k W W' h hs => by obtain ⟨xs, n, h1, h2⟩ := h; exact ⟨xs, n, h1.step hs, h2⟩) (fun c W W' h hs => by obtain ⟨h0, xs, n, b, h1, h2⟩ := h; exact ⟨h0, xs, n, b, h1.step hs, h2⟩) hI0 ?a1 ?assign ?body ?done ?stop
      case assign =>
        intro l x W K hK
        have hK' := Lib.hid hK
        clear hK
        gi_wp2
        exact hK'.out
      case body =>
        intro l k x W hx hI hlt
        obtain ⟨xs, n, hI, hfold, hlen, hn1, hn2⟩ := hI
        obtain ⟨c, d⟩ := x
        have hk : k < L.length := (List.getElem?_eq_some_iff.1 hx).1
        have hdr : L.drop k = (c, d) :: L.drop (k + 1) := by
          rw [List.drop_eq_getElem_cons hk]; congr 1; exact (List.getElem?_eq_some_iff.1 hx).2
        rw [hdr] at hfold
        simp only [foldP] at hfold
        obtain ⟨⟨sv, hB6, hown⟩, hB7, hB8, hBz, ⟨cs, fr, hBs⟩, hbel⟩ := hI
        have hc7 := cell_of_one hB7
        have hf7 := free_of_one hB7
        have hc8 := cell_of_one hB8
        have hf8 := free_of_one hB8
        have Hlen := Aside0.mk hlen
        obtain ⟨i0, hi0, hz0, hz1, hz2⟩ := info_parts info5
        have hxl : xs.length + 1 ≤ 140737488355328 := by omega
        clear hI0 hx hdr hlt f4
        by_cases c0 : c = 0
        · subst c0
          have hc7' := cell_of_one (set_one hB7 (u := .int .i64 (n + 1)))
          have hf7' := free_of_one (set_one hB7 (u := .int .i64 (n + 1)))
          by_cases d0 : d = 255
          · have HF : Aside0 (foldP (L.drop (k + 1)) (xs ++ [0]) (n + 1 + 1) = foldP L [] 1) := ⟨by rw [if_pos rfl, if_pos d0] at hfold; rw [Int.add_assoc]; exact hfold⟩
            subst d0
            clear hfold
            obtain ⟨W2, hW2⟩ : ∃ W2, (W.setCell ⟨w.heap.size + 2, 0, none⟩ (.int .i64 (n + 1))).setCell ⟨w.heap.size + 2, 0, none⟩ (.int .i64 (n + 1 + 1)) = W2 := ⟨_, rfl⟩
            have hk2 : KeepsTy [3] W W2 := by rw [← hW2]; exact (KeepsTy.setCell hB7 (by simp) 0 _).trans (KeepsTy.setCell (set_one hB7) (by simp) 0 _)
            have g7 : W2.heap[w.heap.size + 2]? = some (.cells #[.int .i64 (n + 1 + 1)] 3 (0, 0)) := by rw [← hW2]; exact set_one (set_one hB7)
            have g6 := hk2 _ _ _ _ (by simp) hB6
            have g8 := hk2 _ _ _ _ (by simp) hB8
            have gz := hk2 _ _ _ _ (by simp) hBz
            have gs := hk2 _ _ _ _ (by simp) hBs
            have gown := owns_keeps hk2 (by simp) hown
            have gbel : Below w.heap.size w W2 := by rw [← hW2]; exact (hbel.setCell (p := ⟨w.heap.size + 2, 0, none⟩) (by simp) _).setCell (p := ⟨w.heap.size + 2, 0, none⟩) (by simp) _
            have gko : KeepsOthers W W2 := by rw [← hW2]; exact (others_set _ _ _).trans (others_set _ _ _)
            have gkt : KeepsTy [45, 3, 4, 5] W W2 := fun k cc t fr ht h => hk2 k cc t fr (by simp at ht ⊢; exact ht.2.1) h
            have hbs : w.heap.size ≤ W2.heap.size := by have := lt_of g6; omega
            have fin : ∀ v1 w1, w1.ownsRow w.heap.size 5 1 v1 (xs.length + 1) (nums .u8 xs ++ [.int .u8 0]) → (W2.alloc (.cells #[.int .u8 0] 5)).grownBy w1 sv.ownBlock →
                w1.heap[w.heap.size + 1]? = some (.cells #[sv] 45 (0, 0)) ∧ bodyOut (KeepsTy [45, 3, 4, 5]) (fun W => FirstK w.heap.size w L (k + 1) W) (fun c W => FirstX w.heap.size w L c W) W .normal ({ tmps := #[], defers := [] } : Act) (w1.setCell ⟨w.heap.size + 1, 0, none⟩ v1) := fun v1 w1 a1 a2 => by
              obtain ⟨r1, r2, r3, r4⟩ := append_fin g6 gown g7 g8 gz ⟨_, _, gs⟩ gbel a1 a2
              exact ⟨r1, gko.trans r3, gkt.trans r4, xs ++ [0], n + 1 + 1, r2, HF.out, by rw [List.length_append]; simp [Hlen.out], by omega, by push_cast; omega⟩
            have Fin := Lib.hid fin
            have Hown := Lib.hid gown
            have hbs' : w.heap.size ≤ (W2.alloc (.cells #[.int .u8 0] 5)).heap.size := by rw [World.size_alloc]; omega
            have hsz2 : W2.heap.size = W.heap.size := by rw [← hW2, size_set, size_set]
            have hnew := cell_one_new W2 (.int .u8 0) 5
            rw [hsz2] at hnew
            have hc6 := cell_of_one g6
            have hf6 := free_of_one g6
            rw [← hW2] at Fin Hown hbs' hc6 hf6 hnew
            clear hsz2 fin gkt gko gbel gown gs gz g8 g6 g7 hk2 hW2 hbs hB6 hB8 hBz hBs hown hbel HF
            gi_wp2_with (gi_at_builtin; refine wpListIn_append_own _ rfl _ _ 45 rfl w.heap.size 5 i0 (.int .u8 0) 1 1 Tryd.underlying45 hi0 hz0 hz1 hz2 rfl (by decide) sv xs.length (nums .u8 xs) rfl (Hown.out.alloc _) ⟨_, 0, none⟩ 1 1 [.int .u8 0] rfl rfl hnew (by simp [Value.oneCell']) (by unfold maxLen; omega) (by omega) hbs' ?_; intro v1 w1 hown1 hg1 _; obtain ⟨A1, cp1, rfl⟩ := own_slice hown1; have FX := Lib.hid (Fin.out _ w1 hown1 hg1).2; have hc6' := cell_of_one (Fin.out _ w1 hown1 hg1).1; have hf6' := free_of_one (Fin.out _ w1 hown1 hg1).1; clear hown1 hg1)
            have fx := FX.out
            rw [Hlen.out] at fx
            exact fx
          · have HF : Aside0 (foldP L [] 1 = some (xs, n + 1 + 1, decide (d = 1))) := ⟨by rw [if_pos rfl, if_neg d0] at hfold; rw [Int.add_assoc]; exact hfold.symm⟩
            have d0' : (d == 255) = false := beq_eq_false_iff_ne.2 d0
            have hd1 : (d == 1) = decide (d = 1) := rfl
            have hk2 : KeepsTy [3] W ((W.setCell ⟨w.heap.size + 2, 0, none⟩ (.int .i64 (n + 1))).setCell ⟨w.heap.size + 2, 0, none⟩ (.int .i64 (n + 1 + 1))) := (KeepsTy.setCell hB7 (by simp) 0 _).trans (KeepsTy.setCell (set_one hB7) (by simp) 0 _)
            have hc8' := cell_of_one (hk2 _ _ _ _ (by simp) hB8)
            have hf8' := free_of_one (hk2 _ _ _ _ (by simp) hB8)
            have hk3 : KeepsTy [4] ((W.setCell ⟨w.heap.size + 2, 0, none⟩ (.int .i64 (n + 1))).setCell ⟨w.heap.size + 2, 0, none⟩ (.int .i64 (n + 1 + 1))) (((W.setCell ⟨w.heap.size + 2, 0, none⟩ (.int .i64 (n + 1))).setCell ⟨w.heap.size + 2, 0, none⟩ (.int .i64 (n + 1 + 1))).setCell ⟨w.heap.size + 3, 0, none⟩ (.bool (decide (d = 1)))) := KeepsTy.setCell (hk2 _ _ _ _ (by simp) hB8) (by simp) 0 _
            have fin : bodyOut (KeepsTy [45, 3, 4, 5]) (fun W => FirstK w.heap.size w L (k + 1) W) (fun c W => FirstX w.heap.size w L c W) W (.exit 3) ({ tmps := #[], defers := [] } : Act) (((W.setCell ⟨w.heap.size + 2, 0, none⟩ (.int .i64 (n + 1))).setCell ⟨w.heap.size + 2, 0, none⟩ (.int .i64 (n + 1 + 1))).setCell ⟨w.heap.size + 3, 0, none⟩ (.bool (decide (d = 1)))) :=
              ⟨(others_set _ _ _).trans ((others_set _ _ _).trans (others_set _ _ _)), rfl, xs, n + 1 + 1, decide (d = 1), ⟨⟨sv, hk3 _ _ _ _ (by simp) (hk2 _ _ _ _ (by simp) hB6), owns_keeps hk3 (by simp) (owns_keeps hk2 (by simp) hown)⟩, hk3 _ _ _ _ (by simp) (set_one (set_one hB7)), set_one (hk2 _ _ _ _ (by simp) hB8),
                hk3 _ _ _ _ (by simp) (hk2 _ _ _ _ (by simp) hBz), ⟨_, _, hk3 _ _ _ _ (by simp) (hk2 _ _ _ _ (by simp) hBs)⟩, ((hbel.setCell (p := ⟨w.heap.size + 2, 0, none⟩) (by simp) _).setCell (p := ⟨w.heap.size + 2, 0, none⟩) (by simp) _).setCell (p := ⟨w.heap.size + 3, 0, none⟩) (by simp) _⟩, HF.out, by omega, by omega, by omega⟩
            have Fin := Lib.hid fin
            clear fin hk2 hk3 hfold HF hB6 hown hB7 hB8 hBz hBs hbel
            gi_wp2
            exact Fin.out
        · have HF : Aside0 (foldP (L.drop (k + 1)) (xs ++ [c]) (n + 1) = foldP L [] 1) := ⟨by rw [if_neg c0] at hfold; exact hfold⟩
          have c0' : (c != 0) = true := bne_iff_ne.2 c0
          clear hfold
          obtain ⟨W2, hW2⟩ : ∃ W2, W.setCell ⟨w.heap.size + 2, 0, none⟩ (.int .i64 (n + 1)) = W2 := ⟨_, rfl⟩
          have hk2 : KeepsTy [3] W W2 := by rw [← hW2]; exact KeepsTy.setCell hB7 (by simp) 0 _
          have g7 : W2.heap[w.heap.size + 2]? = some (.cells #[.int .i64 (n + 1)] 3 (0, 0)) := by rw [← hW2]; exact set_one hB7
          have g6 := hk2 _ _ _ _ (by simp) hB6
          have g8 := hk2 _ _ _ _ (by simp) hB8
          have gz := hk2 _ _ _ _ (by simp) hBz
          have gs := hk2 _ _ _ _ (by simp) hBs
          have gown := owns_keeps hk2 (by simp) hown
          have gbel : Below w.heap.size w W2 := by rw [← hW2]; exact hbel.setCell (p := ⟨w.heap.size + 2, 0, none⟩) (by simp) _
          have gko : KeepsOthers W W2 := by rw [← hW2]; exact others_set _ _ _
          have gkt : KeepsTy [45, 3, 4, 5] W W2 := fun k cc t fr ht h => hk2 k cc t fr (by simp at ht ⊢; exact ht.2.1) h
          have hbs : w.heap.size ≤ W2.heap.size := by have := lt_of g6; omega
          have fin : ∀ v1 w1, w1.ownsRow w.heap.size 5 1 v1 (xs.length + 1) (nums .u8 xs ++ [.int .u8 c]) → (W2.alloc (.cells #[.int .u8 c] 5)).grownBy w1 sv.ownBlock →
              w1.heap[w.heap.size + 1]? = some (.cells #[sv] 45 (0, 0)) ∧ bodyOut (KeepsTy [45, 3, 4, 5]) (fun W => FirstK w.heap.size w L (k + 1) W) (fun c W => FirstX w.heap.size w L c W) W .normal ({ tmps := #[], defers := [] } : Act) (w1.setCell ⟨w.heap.size + 1, 0, none⟩ v1) := fun v1 w1 a1 a2 => by
            obtain ⟨r1, r2, r3, r4⟩ := append_fin g6 gown g7 g8 gz ⟨_, _, gs⟩ gbel a1 a2
            exact ⟨r1, gko.trans r3, gkt.trans r4, xs ++ [c], n + 1, r2, HF.out, by rw [List.length_append]; simp [Hlen.out], by omega, by push_cast; omega⟩
          have Fin := Lib.hid fin
          have Hown := Lib.hid gown
          have hbs' : w.heap.size ≤ (W2.alloc (.cells #[.int .u8 c] 5)).heap.size := by rw [World.size_alloc]; omega
          have hsz2 : W2.heap.size = W.heap.size := by rw [← hW2, size_set]
          have hnew := cell_one_new W2 (.int .u8 c) 5
          rw [hsz2] at hnew
          have hc6 := cell_of_one g6
          have hf6 := free_of_one g6
          rw [← hW2] at Fin Hown hbs' hc6 hf6 hnew
          clear hsz2 fin gkt gko gbel gown gs gz g8 g6 g7 hk2 hW2 hbs hB6 hB8 hBz hBs hown hbel HF
          gi_wp2_with (gi_at_builtin; refine wpListIn_append_own _ rfl _ _ 45 rfl w.heap.size 5 i0 (.int .u8 0) 1 1 Tryd.underlying45 hi0 hz0 hz1 hz2 rfl (by decide) sv xs.length (nums .u8 xs) rfl (Hown.out.alloc _) ⟨_, 0, none⟩ 1 1 [.int .u8 c] rfl rfl hnew (by simp [Value.oneCell']) (by unfold maxLen; omega) (by omega) hbs' ?_; intro v1 w1 hown1 hg1 _; obtain ⟨A1, cp1, rfl⟩ := own_slice hown1; have FX := Lib.hid (Fin.out _ w1 hown1 hg1).2; have hc6' := cell_of_one (Fin.out _ w1 hown1 hg1).1; have hf6' := free_of_one (Fin.out _ w1 hown1 hg1).1; clear hown1 hg1)
          have fx := FX.out
          rw [Hlen.out] at fx
          exact fx
      case done =>
        intro D W hD hI hK
        obtain ⟨xs, n, ⟨⟨sv, hB6, hown⟩, hB7, hB8, hBz, ⟨cs, fr, hBs⟩, hbel⟩, hfold, hlen, hn1, hn2⟩ := hI
        rw [List.drop_length] at hfold
        have hi := H.out
        rw [← hfold] at hi
        obtain ⟨rfl, rfl, rfl, rfl⟩ : false = r1 ∧ (0 : Int) = r2 ∧ (⟨#[]⟩ : ByteArray) = r3 ∧ (0 : Int) = r4 := by simpa [foldP] using hi
        clear hi H
        have hc0 := (blk_cell hBz 0).trans rfl
        have hc1 := (blk_cell hBz 1).trans rfl
        have hc2 := (blk_cell hBz 2).trans rfl
        have hf0 := blk_frozen hBz 0
        have hf1 := blk_frozen hBz 1
        have hf2 := blk_frozen hBz 2
        have hc8 := cell_of_one hB8
        have Hbz := Lib.hid hBz
        have Hbel := Lib.hid hbel
        have HKd := Lib.hid hK
        have Hlt := Lib.hid (lt_of hBs)
        clear hBz hbel hK hown hB6 hB7 hB8 hBs hfold hI0 f4
        gi_wp2
        refine first_leaves1 (D := D) rfl ?hd rfl rfl (blk_put (cs := #[.bool false, .int .u64 0, .string (⟨#[]⟩ : ByteArray)]) (blk_put (cs := #[.bool false, .int .u64 0, .string (⟨#[]⟩ : ByteArray)]) (blk_put (cs := #[.bool false, .int .u64 0, .string (⟨#[]⟩ : ByteArray)]) Hbz.out 0 _ rfl) 1 _ rfl) 2 _ rfl) ⟨rfl, ?_⟩
        case hd => exact ((set_other (by show D ≠ w.heap.size; omega)).trans ((set_other (by show D ≠ w.heap.size; omega)).trans (set_other (by show D ≠ w.heap.size; omega)))).trans HKd.out
        have hlt := Hlt.out
        exact (below_set (below_set (below_set Hbel.out (Nat.le_refl _)) (Nat.le_refl _)) (Nat.le_refl _)).grown (grownBy_putObj' _ D _) (by rw [size_set, size_set, size_set]; omega) (fun r e => by cases e; omega)
      case stop =>
        rintro D c W hD ⟨rfl, xs, n, b, ⟨⟨sv, hB6, hown⟩, hB7, hB8, hBz, ⟨cs, fr, hBs⟩, hbel⟩, hfold, hlen, hn1, hn2⟩ hK
        have hi := H.out
        rw [hfold] at hi
        cases b
        · obtain ⟨rfl, rfl, rfl, rfl⟩ : false = r1 ∧ (0 : Int) = r2 ∧ (⟨#[]⟩ : ByteArray) = r3 ∧ (0 : Int) = r4 := by simpa using hi
          clear hi H
          have hc0 := (blk_cell hBz 0).trans rfl
          have hc1 := (blk_cell hBz 1).trans rfl
          have hc2 := (blk_cell hBz 2).trans rfl
          have hf0 := blk_frozen hBz 0
          have hf1 := blk_frozen hBz 1
          have hf2 := blk_frozen hBz 2
          have hc8 := cell_of_one hB8
          have Hbz := Lib.hid hBz
          have Hbel := Lib.hid hbel
          have HKd := Lib.hid hK
          have Hlt := Lib.hid (lt_of hBs)
          clear hBz hbel hK hown hB6 hB7 hB8 hBs hfold hI0 f4
          gi_wp2
          refine first_leaves1 (D := D) rfl ?hd rfl rfl (blk_put (cs := #[.bool false, .int .u64 0, .string (⟨#[]⟩ : ByteArray)]) (blk_put (cs := #[.bool false, .int .u64 0, .string (⟨#[]⟩ : ByteArray)]) (blk_put (cs := #[.bool false, .int .u64 0, .string (⟨#[]⟩ : ByteArray)]) Hbz.out 0 _ rfl) 1 _ rfl) 2 _ rfl) ⟨rfl, ?_⟩
          case hd => exact ((set_other (by show D ≠ w.heap.size; omega)).trans ((set_other (by show D ≠ w.heap.size; omega)).trans (set_other (by show D ≠ w.heap.size; omega)))).trans HKd.out
          have hlt := Hlt.out
          exact (below_set (below_set (below_set Hbel.out (Nat.le_refl _)) (Nat.le_refl _)) (Nat.le_refl _)).grown (grownBy_putObj' _ D _) (by rw [size_set, size_set, size_set]; omega) (fun r e => by cases e; omega)
        · obtain ⟨rfl, rfl, rfl, rfl⟩ : true = r1 ∧ (0 : Int) = r2 ∧ strOfNums xs = r3 ∧ n = r4 := by simpa using hi
          clear hi H
          have hc0 := (blk_cell hBz 0).trans rfl
          have hc1 := (blk_cell hBz 1).trans rfl
          have hc2 := (blk_cell hBz 2).trans rfl
          have hf0 := blk_frozen hBz 0
          have hf1 := blk_frozen hBz 1
          have hf2 := blk_frozen hBz 2
          have hc8 := cell_of_one hB8
          have hc6 := cell_of_one hB6
          have hc7 := cell_of_one hB7
          have Hbz := Lib.hid hBz
          have Hbel := Lib.hid hbel
          have HKd := Lib.hid hK
          have Hlt := Lib.hid (lt_of hBs)
          have hcv := own_string (P := Tryd.prog) Tryd.underlying45 Tryd.underlying5 Tryd.underlying9 hown.drew
          obtain ⟨As, cps, rfl⟩ := own_slice hown
          clear hBz hbel hK hown hB6 hB7 hB8 hBs hfold hI0 f4
          gi_wp2
          gi_region
          gi_wp2
          refine first_leaves1 (D := D) rfl ?hd rfl rfl (blk_put (cs := #[.bool true, .int .u64 0, .string (⟨#[]⟩ : ByteArray)]) (blk_put (cs := #[.bool true, .int .u64 0, .string (⟨#[]⟩ : ByteArray)]) (blk_put (cs := #[.bool false, .int .u64 0, .string (⟨#[]⟩ : ByteArray)]) Hbz.out 0 _ rfl) 1 _ rfl) 2 _ rfl) ⟨rfl, ?_⟩
          case hd => exact ((set_other (by show D ≠ w.heap.size; omega)).trans ((set_other (by show D ≠ w.heap.size; omega)).trans (set_other (by show D ≠ w.heap.size; omega)))).trans HKd.out
          have hlt := Hlt.out
          exact (below_set (below_set (below_set Hbel.out (Nat.le_refl _)) (Nat.le_refl _)) (Nat.le_refl _)).drew.grown (grownBy_putObj' _ D _) (by show w.heap.size ≤ (World.setCell _ _ _).heap.size; rw [size_set, size_set, size_set]; omega) (fun r e => by cases e; omega)
    · rw [if_neg c2] at H
      have e2 : (bt a0 0 != 2) = true := bne_iff_ne.mpr c2
      have hi := H.out
      obtain ⟨rfl, rfl, rfl, rfl⟩ : false = r1 ∧ (0 : Int) = r2 ∧ (⟨#[]⟩ : ByteArray) = r3 ∧ (0 : Int) = r4 := by simpa using hi
      clear hi H
      gi_wp2
      refine wpIn_scope_straight ?_
      obtain ⟨W0, hW0⟩ : ∃ W0, w.alloc (.cells #[.bool false, .int .u64 0, .string (⟨#[]⟩ : ByteArray)] 41) = W0 := ⟨_, rfl⟩
      have hB2 : W0.heap[w.heap.size]? = some (.cells #[.bool false, .int .u64 0, .string (⟨#[]⟩ : ByteArray)] 41 (0, 0)) := by rw [← hW0]; exact alloc_new w _
      have HB := Aside0.mk (show Below w.heap.size w W0 by rw [← hW0]; exact (Below.refl _ _).alloc (Nat.le_refl _) _)
      have HB2 := Aside0.mk hB2
      rw [hW0]
      clear hW0 hB2
      have hc0 := (blk_cell HB2.out 0).trans rfl
      have hc1 := (blk_cell HB2.out 1).trans rfl
      have hc2 := (blk_cell HB2.out 2).trans rfl
      have hf0 := blk_frozen HB2.out 0
      have hf1 := blk_frozen HB2.out 1
      have hf2 := blk_frozen HB2.out 2
      gi_wp2
      refine first_leaves rfl rfl rfl (blk_put (cs := #[.bool false, .int .u64 0, .string (⟨#[]⟩ : ByteArray)]) (blk_put (cs := #[.bool false, .int .u64 0, .string (⟨#[]⟩ : ByteArray)]) (blk_put (cs := #[.bool false, .int .u64 0, .string (⟨#[]⟩ : ByteArray)]) HB2.out 0 _ rfl) 1 _ rfl) 2 _ rfl) ⟨rfl, ?_⟩
      exact below_set (below_set (below_set HB.out (Nat.le_refl _)) (Nat.le_refl _)) (Nat.le_refl _)
end Go.Proofs.YtdofoopnjmbmcaaDoor.HandF
