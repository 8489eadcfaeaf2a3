/- A contract by hand: id.Right. -/
import Derived.Test.YtlhaofbncoijfaaNodes
namespace Go.Proofs.Ytlhaofbncoijfaa.HandF
set_option linter.unusedVariables false
set_option linter.unusedSimpArgs false
open Go.RowKit Go.Shelf Go.Proofs.Ytlhaofbncoijfaa.X Go.Proofs.Ytlhaofbncoijfaa.Blocks Go.Proofs.Ytlhaofbncoijfaa.Nest
open Go.Proofs.YtlhaofbncoijfaaW.PrintWords Go.Proofs.YtlhaofbncoijfaaW.PrintLast Go.Proofs.YtlhaofbncoijfaaW.PrintMore
attribute [local go_sem] Oper.semAt_some

/-- A scope that holds a label, walked through without a jump, behind a fence. -/
theorem wpIn_scope_straight {F : Fence} {n : Nat} {P : Program} {Q : Exit → Act → World → Prop} {a : Act} {w : World} {c : Code} (h : c.wpIn F n P (Exit.noGoto Q) a w) : (Code.scope c).wpIn F n P Q a w := by
  intro b k cs hro hb hr
  have h0 : (lone (b.atR a (.code (.scope c) :: k)) cs w).fenced P F := fenced_calm hb hr rfl
  have s0 : step P (lone (b.atR a (.code (.scope c) :: k)) cs w) = .next (lone (b.atR a (.code c :: .inScope c :: k)) cs w) := step_lone_go (by simp [stepG, stepG.exec, Frame.atR])
  obtain ⟨e, a₁, w₁, hq, harr⟩ := h b (.inScope c :: k) cs hro hb hr
  cases e with
  | normal => exact ⟨.normal, a₁, w₁, hq, .head h0 s0 (StepsIn.trans harr (.one (fenced_calm hb hr rfl) (step_lone_go (by simp [stepG, stepG.exec, Frame.atR]))))⟩
  | exit id =>
    have hx : exitTo id (.inScope c :: k) = exitTo id k := by simp [exitTo]
    exact ⟨.exit id, a₁, w₁, hq, fun k' hk => .head h0 s0 (harr.1 k' (by rw [hx]; exact hk)), fun hr' hk => let ⟨k₁, h1, h2⟩ := harr.2 hr' (by rw [hx]; exact hk); ⟨k₁, h1, .head h0 s0 h2⟩⟩
  | goto l => exact hq.elim
  | ret => exact ⟨_, a₁, w₁, hq, .of_steps (.one h0 s0) harr⟩
  | panic ch => exact ⟨_, a₁, w₁, hq, .of_steps (.one h0 s0) harr⟩
  | outgrown => exact ⟨_, a₁, w₁, hq, .of_steps (.one h0 s0) harr⟩

/-- A node at a depth, the so-and-so-many-th, that no right tree has. -/
def Bad (n : Nat) (x : Int × S24) : Prop := 32 < x.1 ∨ 2047 < n + 1 ∨ (x.2.f1.length ≠ 0 ∧ x.2.f1.length ≠ 2) ∨ (x.2.f1.length = 2 ∧ x.2.f0 = true)
instance (n : Nat) (x : Int × S24) : Decidable (Bad n x) := by unfold Bad; infer_instance
def rightL : Nat → List (Int × S24) → Bool
  | _, [] => true
  | n, x :: r => if Bad n x then false else rightL (n + 1) r
/-- Is a tree right? -/
def rightB (t : S24) : Bool := rightL 0 (nodesL 33 0 t)

abbrev projL (L : List Item) : List (Int × S24) := L.map (fun x => (x.1, x.2.1))
theorem one_setCell {W : World} {b t : Nat} {x u : Value} (h : W.heap[b]? = some (.cells #[x] t (0, 0))) : (W.setCell ⟨b, 0, none⟩ u).heap[b]? = some (.cells #[u] t (0, 0)) := by
  have := blk_put (cs := #[x]) h 0 u rfl
  exact this
theorem other_set {W : World} {b k : Nat} {u : Value} {o : Obj} (h : W.heap[k]? = some o) (hne : k ≠ b) : (W.setCell ⟨b, 0, none⟩ u).heap[k]? = some o := (Below.heap_setCell _ _ _ _ (by simpa using hne)).trans h

/-- What stands between two rounds. -/
structure RightI (w : World) (B : Nat) (L : List Item) (k : Kid) (n : Nat) (W : World) : Prop where
  below : Below B w W
  many : W.heap[B + 1]? = some (.cells #[.int .i64 (n : Int)] 3 (0, 0))
  good : W.heap[B + 2]? = some (.cells #[.bool true] 4 (0, 0))
  tree : W.heap[B + 3]? = some (.cells #[.bool k.1.f0, .slice k.2.1 k.1.f1.length k.2.2] 24 (0, 0))
  depth : W.heap[B + 4]? = some (.cells #[.int .i64 0] 3 (0, 0))
  rest : rightL n (projL (L.drop n)) = rightL 0 (projL L)
  le : n ≤ 2047
  two : ∀ (j : Nat) (x : Item), j + 1 = n → L[j]? = some x → x.Two
theorem RightI.step {w W W' : World} {B S : Nat} {L : List Item} {k : Kid} {n : Nat} (h : RightI w B L k n W) (hs : StepN S W W') (hB : B ≤ S) : RightI w B L k n W' :=
  ⟨h.below.trans (hs.below.mono hB), hs.cells _ _ h.many rfl, hs.cells _ _ h.good rfl, hs.cells _ _ h.tree rfl, hs.cells _ _ h.depth rfl, h.rest, h.le, h.two⟩
/-- Where a bad node was met. -/
structure RightX (w : World) (B : Nat) (L : List Item) (c : Code) (W : World) : Prop where
  code : c = .exit 0
  below : Below B w W
  good : W.heap[B + 2]? = some (.cells #[.bool false] 4 (0, 0))
  no : rightL 0 (projL L) = false
theorem RightX.step {w W W' : World} {B S : Nat} {L : List Item} {c : Code} (h : RightX w B L c W) (hs : StepN S W W') (hB : B ≤ S) : RightX w B L c W' :=
  ⟨h.code, h.below.trans (hs.below.mono hB), hs.cells _ _ h.good rfl, h.no⟩

/-- A round that goes on. -/
theorem right_on {w W : World} {B : Nat} {L : List Item} {k : Kid} {n : Nat} {x : Item} (h : RightI w B L k n W) (hx : L[n]? = some x) (hb : ¬ Bad n (x.1, x.2.1)) :
    Keep (B + 5) W (W.setCell ⟨B + 1, 0, none⟩ (.int .i64 ((n : Int) + 1))) ∧ RightI w B L k (n + 1) (W.setCell ⟨B + 1, 0, none⟩ (.int .i64 ((n : Int) + 1))) := by
  have hlt := (List.getElem?_eq_some_iff.1 hx).1
  have hd : L.drop n = x :: L.drop (n + 1) := by rw [List.drop_eq_getElem_cons hlt, (List.getElem?_eq_some_iff.1 hx).2]
  have hr := h.rest
  rw [hd] at hr
  rw [projL, List.map_cons, rightL, if_neg hb] at hr
  simp only [Bad, not_or, Nat.not_lt] at hb
  refine ⟨Keep.set _ _ (show B + 1 < B + 5 by omega), h.below.setCell (by simp) _, ?_, other_set h.good (by omega), other_set h.tree (by omega), other_set h.depth (by omega), hr, by omega, fun j y hj hy => ?_⟩
  · rw [show ((n + 1 : Nat) : Int) = (n : Int) + 1 by push_cast; rfl]; exact one_setCell h.many
  · obtain rfl : j = n := by omega
    obtain rfl : x = y := Option.some.inj (hx.symm.trans hy)
    show x.2.1.f1.length ≤ 2
    have := hb.2.2.1
    omega
theorem right_stop {w W : World} {B : Nat} {L : List Item} {k : Kid} {n : Nat} {x : Item} (h : RightI w B L k n W) (hx : L[n]? = some x) (hb : Bad n (x.1, x.2.1)) :
    Keep (B + 5) W ((W.setCell ⟨B + 1, 0, none⟩ (.int .i64 ((n : Int) + 1))).setCell ⟨B + 2, 0, none⟩ (.bool false)) ∧ RightX w B L (.exit 0) ((W.setCell ⟨B + 1, 0, none⟩ (.int .i64 ((n : Int) + 1))).setCell ⟨B + 2, 0, none⟩ (.bool false)) := by
  have hlt := (List.getElem?_eq_some_iff.1 hx).1
  have hd : L.drop n = x :: L.drop (n + 1) := by rw [List.drop_eq_getElem_cons hlt, (List.getElem?_eq_some_iff.1 hx).2]
  have hr := h.rest
  rw [hd] at hr
  rw [projL, List.map_cons, rightL, if_pos hb] at hr
  exact ⟨(Keep.set _ _ (show B + 1 < B + 5 by omega)).trans (Keep.set _ _ (show B + 2 < B + 5 by omega)), rfl, (h.below.setCell (by simp) _).setCell (by simp) _, one_setCell (other_set h.good (by omega)), hr.symm⟩

set_option maxRecDepth 100000 in
set_option maxHeartbeats 4000000 in
theorem right_calls (k : Kid) (w : World) (hk : k.Lies w) :
    Calls Try.prog 17 #[.agg #[.bool k.1.f0, .slice k.2.1 k.1.f1.length k.2.2]] w fun e w' => e = .returned (.bool (rightB k.1)) ∧ Below w.heap.size w w' := by
  obtain ⟨L, hL, hLl, hseq⟩ := nodes_seq 33 0 k w rfl (by omega) hk
  have hres : rightL 0 (projL L) = rightB k.1 := by rw [projL, hL]; rfl
  have HSEQ := Lib.hid hseq
  have HRES := Lib.hid hres
  clear hseq hres hL hLl hk
  have hu24 := Try.underlying24
  refine (callsIn_wide (n := 3)).1 ?_
  refine callsIn_of_wp_marks Try.func17 rfl trivial ?_ rfl
  simp only [Try.ntmps17, List.size_toArray, List.length_cons, List.length_nil, Nat.reduceAdd, Nat.reduceSub, Array.replicate_succ, Array.replicate_zero, List.push_toArray, List.append_toArray, List.nil_append, List.cons_append]
  gi_wp2
  refine wpIn_scope_straight ?_
  gi_wp2
  refine wpIn_label ?_
  gi_wp2_with (refine ⟨trivial, ?_⟩; gi_at_call 41; refine (nodes_calls _ _ _ _ _ _ _).mono ?_; rintro e w' ⟨rfl, rfl⟩)
  obtain ⟨W0, hW0⟩ : ∃ W0, ((((w.alloc (.cells #[.bool k.1.f0, .slice k.2.1 k.1.f1.length k.2.2] 24)).alloc (.cells #[.int .i64 0] 3)).alloc (.cells #[.bool true] 4)).alloc (.cells #[.bool k.1.f0, .slice k.2.1 k.1.f1.length k.2.2] 24)).alloc (.cells #[.int .i64 0] 3) = W0 := ⟨_, rfl⟩
  have hsz : W0.heap.size = w.heap.size + 5 := by rw [← hW0]; simp
  have hI0 : RightI w w.heap.size L k 0 W0 := by
    refine ⟨?_, ?_, ?_, ?_, ?_, by rw [List.drop_zero], by omega, fun j x h => by omega⟩
    · rw [← hW0]; exact (((((Below.refl _ _).alloc (Nat.le_refl _) _).alloc (by simp) _).alloc (by simp; omega) _).alloc (by simp; omega) _).alloc (by simp; omega) _
    · rw [← hW0]; refine alloc_at (alloc_at (alloc_at ?_ _) _) _
      have := alloc_new (w.alloc (.cells #[.bool k.1.f0, .slice k.2.1 k.1.f1.length k.2.2] 24)) (.cells #[.int .i64 0] 3)
      rwa [World.size_alloc] at this
    · rw [← hW0]; refine alloc_at (alloc_at ?_ _) _
      have := alloc_new ((w.alloc (.cells #[.bool k.1.f0, .slice k.2.1 k.1.f1.length k.2.2] 24)).alloc (.cells #[.int .i64 0] 3)) (.cells #[.bool true] 4)
      rwa [World.size_alloc, World.size_alloc] at this
    · rw [← hW0]; refine alloc_at ?_ _
      have := alloc_new (((w.alloc (.cells #[.bool k.1.f0, .slice k.2.1 k.1.f1.length k.2.2] 24)).alloc (.cells #[.int .i64 0] 3)).alloc (.cells #[.bool true] 4)) (.cells #[.bool k.1.f0, .slice k.2.1 k.1.f1.length k.2.2] 24)
      rwa [World.size_alloc, World.size_alloc, World.size_alloc] at this
    · rw [← hW0]
      have := alloc_new ((((w.alloc (.cells #[.bool k.1.f0, .slice k.2.1 k.1.f1.length k.2.2] 24)).alloc (.cells #[.int .i64 0] 3)).alloc (.cells #[.bool true] 4)).alloc (.cells #[.bool k.1.f0, .slice k.2.1 k.1.f1.length k.2.2] 24)) (.cells #[.int .i64 0] 3)
      rwa [World.size_alloc, World.size_alloc, World.size_alloc, World.size_alloc] at this
  rw [hW0]
  simp only [Nat.add_assoc, Nat.reduceAdd]
  have HSZ := Lib.hid hsz
  have HI0 := Lib.hid hI0
  clear hsz hI0 hW0
  refine wpIn_rangeFunc_seqW (gf := 67) (lb := #[.pointer (some ⟨w.heap.size + 4, 0, none⟩), .pointer (some ⟨w.heap.size + 3, 0, none⟩)]) rfl (enters_of Try.func67 (by kernel_rfl) rfl)
    (HSEQ.out (w.heap.size + 3) (w.heap.size + 4) (W0.heap.size + 2)) (fun _ => rfl)
    (fun n W => RightI w w.heap.size L k n W) (fun c W => RightX w w.heap.size L c W)
    (fun n x W hx h => h.two n x rfl hx) (fun n W h => ⟨Sees.of_below h.below, h.tree, h.depth⟩)
    (fun n A B h hs => h.step hs (by have := HSZ.out; omega)) (fun c A B h hs => h.step hs (by have := HSZ.out; omega)) HI0.out
    (fun x m a' W' => a' = { tmps := #[.agg #[.bool k.1.f0, .slice k.2.1 k.1.f1.length k.2.2], .pointer (some ⟨w.heap.size, 0, none⟩), .bool false, .pointer (some ⟨w.heap.size + 1, 0, none⟩), .pointer (some ⟨w.heap.size + 2, 0, none⟩), .int .i64 x.1, .pointer (some ⟨m, 0, none⟩), undef,
      .agg #[.bool k.1.f0, .slice k.2.1 k.1.f1.length k.2.2], .func (.func 67) #[] #[.pointer (some ⟨w.heap.size + 4, 0, none⟩), .pointer (some ⟨w.heap.size + 3, 0, none⟩)], .int .i64 x.1, .agg #[.bool x.2.1.f0, .slice x.2.2.1 x.2.1.f1.length x.2.2.2],
      undef, undef, undef, undef, undef, undef, undef, undef, undef, undef, undef, undef, undef, undef, undef, undef, undef, undef, undef, undef, undef, undef, undef], defers := [] } ∧
      W'.heap[m]? = some (.cells #[.bool x.2.1.f0, .slice x.2.2.1 x.2.1.f1.length x.2.2.2] 24 (0, 0)))
    (fun x m a' A B h hs => ⟨h.1, hs.cells _ _ h.2 rfl⟩) ?assign ?body ?done ?stop
  case assign =>
    intro l' x W' K' hK'
    have HK' := Lib.hid hK'
    clear hK'
    unfold Item.enc
    gi_wp2
    refine HK'.out _ _ ?_ ?_ ⟨rfl, ?_⟩
    · exact (Below.refl _ _).alloc (Nat.le_refl _) _
    · simp
    · exact alloc_new _ _
  case body =>
    rintro l' n x m a' W hx hI ⟨rfl, hA⟩ hm1 hm2
    have hmne : m ≠ w.heap.size + 1 := by have := HSZ.out; omega
    have hc0 := cell0 hA
    have hc1 := cell1 hA
    have hcn := cell_of_one hI.many
    have hfn := free_of_one hI.many
    have hcg := cell_of_one hI.good
    have hfg := free_of_one hI.good
    have hA2 := other_set (u := .int .i64 ((n : Int) + 1)) hA hmne
    have hc02 := cell0 hA2
    have hc12 := cell1 hA2
    have hcn2 := cell_of_one (one_setCell (u := .int .i64 ((n : Int) + 1)) hI.many)
    have hg2 := other_set (b := w.heap.size + 1) (u := .int .i64 ((n : Int) + 1)) hI.good (by omega)
    have hcg2 := cell_of_one hg2
    have hfg2 := free_of_one hg2
    have hle := hI.le
    have hwn : wrap64 ((n : Int) + 1) = (n : Int) + 1 := by unfold wrap64; omega
    have STOP := Lib.hid (right_stop hI hx)
    have ON := Lib.hid (right_on hI hx)
    have HSZ5 := Lib.hid (show w.heap.size + 5 ≤ W0.heap.size from Nat.le_of_eq HSZ.out.symm)
    obtain ⟨d, t, A, cp⟩ := x
    dsimp only at hc0 hc1 hc02 hc12 STOP ON
    clear hI hx hA hA2 hm1 hm2 hg2
    by_cases b1 : 32 < d
    · have e1 : decide (32 < d) = true := decide_eq_true b1
      have FIN := Lib.hid (STOP.out (.inl b1))
      clear STOP ON
      gi_wp2
      exact ⟨FIN.out.1.mono HSZ5.out, FIN.out.2⟩
    have e1 : decide (32 < d) = false := decide_eq_false b1
    by_cases b2 : 2047 < n + 1
    · have e2 : decide ((2047 : Int) < (n : Int) + 1) = true := decide_eq_true (by omega)
      have e2' : decide (2047 < n + 1) = true := decide_eq_true (by omega)
      have FIN := Lib.hid (STOP.out (.inr (.inl b2)))
      clear STOP ON
      gi_wp2
      exact ⟨FIN.out.1.mono HSZ5.out, FIN.out.2⟩
    have e2 : decide ((2047 : Int) < (n : Int) + 1) = false := decide_eq_false (by omega)
    have e2' : decide (2047 < n + 1) = false := decide_eq_false (by omega)
    by_cases b3 : t.f1.length = 0
    · have e3 : ((t.f1.length : Int) != 0) = false := bne_eq_false_iff_eq.2 (by omega)
      have e3' : (t.f1.length != 0) = false := bne_eq_false_iff_eq.2 b3
      have e4 : ((t.f1.length : Int) == 2) = false := beq_eq_false_iff_ne.2 (by omega)
      have FIN := Lib.hid (ON.out (by unfold Bad; dsimp only; omega))
      clear STOP ON
      gi_wp2
      exact ⟨FIN.out.1.mono HSZ5.out, FIN.out.2⟩
    have e3 : ((t.f1.length : Int) != 0) = true := bne_iff_ne.2 (by omega)
    by_cases b4 : t.f1.length = 2
    · have e4 : ((t.f1.length : Int) != 2) = false := bne_eq_false_iff_eq.2 (by omega)
      have e5 : ((t.f1.length : Int) == 2) = true := beq_iff_eq.2 (by omega)
      obtain ⟨o, kl⟩ := t
      dsimp only at *
      cases o
      · have FIN := Lib.hid (ON.out (by unfold Bad; dsimp only; simp; omega))
        clear STOP ON
        gi_wp2
        exact ⟨FIN.out.1.mono HSZ5.out, FIN.out.2⟩
      · have FIN := Lib.hid (STOP.out (.inr (.inr (.inr ⟨b4, rfl⟩))))
        clear STOP ON
        gi_wp2
        exact ⟨FIN.out.1.mono HSZ5.out, FIN.out.2⟩
    · have e4 : ((t.f1.length : Int) != 2) = true := bne_iff_ne.2 (by omega)
      have FIN := Lib.hid (STOP.out (.inr (.inr (.inl ⟨b3, b4⟩))))
      clear STOP ON
      gi_wp2
      exact ⟨FIN.out.1.mono HSZ5.out, FIN.out.2⟩
  case done =>
    rintro D W hD hI hd
    have hcg := cell_of_one hI.good
    have HR := Lib.hid hI.rest
    have HB := Lib.hid hI.below
    have HM := Lib.hid (⟨[D], rfl, by simp, fun E hE => by obtain rfl := List.mem_singleton.1 hE; exact ⟨hD, hd⟩⟩ : Marks W0.heap.size [{ target := .collected D, args := #[] }] W)
    clear hI hD hd
    gi_wp2
    refine leaves_marks _ W HM.out ?_
    intro W2 hs
    have hr := HR.out
    rw [List.drop_length] at hr
    exact ⟨_, results_tmp rfl _ _ _, by rw [← HRES.out, ← hr]; rfl, HB.out.trans (hs.below.mono (by have := HSZ.out; omega))⟩
  case stop =>
    rintro D c W hD hX hd
    obtain rfl := hX.code
    have hcg := cell_of_one hX.good
    have HR := Lib.hid hX.no
    have HB := Lib.hid hX.below
    have HM := Lib.hid (⟨[D], rfl, by simp, fun E hE => by obtain rfl := List.mem_singleton.1 hE; exact ⟨hD, hd⟩⟩ : Marks W0.heap.size [{ target := .collected D, args := #[] }] W)
    clear hX hD hd
    gi_wp2
    refine leaves_marks _ W HM.out ?_
    intro W2 hs
    exact ⟨_, results_tmp rfl _ _ _, by rw [← HRES.out, HR.out]; rfl, HB.out.trans (hs.below.mono (by have := HSZ.out; omega))⟩
end Go.Proofs.Ytlhaofbncoijfaa.HandF
