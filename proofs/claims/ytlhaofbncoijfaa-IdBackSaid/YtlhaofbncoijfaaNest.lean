/- A range over a function: one law for a caller whose iterator comes with a known list of values, where the iterator leaves what lies below it and the round leaves what lies behind; no program is named here. -/
import Derived.RangeFuncNested
import Derived.RangeFuncBound
import Derived.RangeFuncCalls
import Derived.RangeFuncLeaves
import Derived.Shelf.Abstract
import Derived.Shelf.RegionOpen
import Derived.WalkKit
import Derived.OwnWalkIn
import Derived.TacticsInMore
import Derived.LoopNIn
import Derived.LoopIn
import Derived.RangeFuncWrites
namespace Go.Proofs.Ytlhaofbncoijfaa.Nest
set_option linter.unusedVariables false
set_option linter.unusedSimpArgs false
open Go Go.RowKit
variable {n : Nat} {P : Program}

/-- What an iterator does between two rounds: what lay below S, and all cells, stay as they were. -/
structure StepN (S : Nat) (W W' : World) : Prop where
  below : Below S W W'
  cells : ∀ (k : Nat) (o : Obj), W.heap[k]? = some o → o.isCells = true → W'.heap[k]? = some o
theorem StepN.refl (S : Nat) (W : World) : StepN S W W := ⟨Below.refl _ _, fun _ _ h _ => h⟩
theorem StepN.trans {S : Nat} {A B C : World} (h : StepN S A B) (k : StepN S B C) : StepN S A C := ⟨h.below.trans k.below, fun i o hi ho => k.cells i o (h.cells i o hi ho) ho⟩
theorem StepN.mono {S S' : Nat} {A B : World} (h : StepN S A B) (hS : S' ≤ S) : StepN S' A B := ⟨h.below.mono hS, h.cells⟩
theorem StepN.alloc {S : Nat} (W : World) (o : Obj) (hS : S ≤ W.heap.size) : StepN S W (W.alloc o) :=
  ⟨(Below.refl _ _).alloc hS _, fun k o' h _ => (Below.heap_alloc _ _ _ (Array.getElem?_eq_some_iff.1 h).1).trans h⟩
theorem size_put (W : World) (l : Nat) (o : Obj) : (W.putObj l o).heap.size = W.heap.size := by simp [World.putObj]
theorem StepN.put {S : Nat} {W : World} {l : Nat} {o : Obj} (o' : Obj) (h : W.heap[l]? = some o) (ho : o.isCells = false) (hS : S ≤ l) : StepN S W (W.putObj l o') :=
  ⟨⟨rfl, rfl, rfl, by rw [size_put]; exact Nat.le_refl _, fun k hk => World.putObj_heap_other (by omega)⟩, fun k x hk hx => by
    by_cases e : k = l
    · subst e; rw [h] at hk; cases hk; rw [ho] at hx; cases hx
    · exact (World.putObj_heap_other e).trans hk⟩
/-- A new block that is written at once. -/
theorem StepN.allocSet {S : Nat} (W : World) (o : Obj) (hS : S ≤ W.heap.size) {W' : World} (hs : W'.heap.size = W.heap.size + 1) (hb : Below W.heap.size W W') : StepN S W W' :=
  ⟨hb.mono hS, fun k o' h _ => (hb.block k (Array.getElem?_eq_some_iff.1 h).1).trans h⟩
theorem StepN.fresh {S : Nat} {W W' : World} (hS : S ≤ W.heap.size) (hb : Below W.heap.size W W') : StepN S W W' :=
  ⟨hb.mono hS, fun k o' h _ => (hb.block k (Array.getElem?_eq_some_iff.1 h).1).trans h⟩

/-- What a round does: whatever lies at S or behind stays. -/
structure Keep (S : Nat) (W W' : World) : Prop where
  size : W.heap.size ≤ W'.heap.size
  same : ∀ (k : Nat), S ≤ k → k < W.heap.size → W'.heap[k]? = W.heap[k]?
theorem Keep.refl (S : Nat) (W : World) : Keep S W W := ⟨Nat.le_refl _, fun _ _ _ => rfl⟩
theorem Keep.trans {S : Nat} {A B C : World} (h : Keep S A B) (k : Keep S B C) : Keep S A C :=
  ⟨Nat.le_trans h.size k.size, fun i hi hl => (k.same i hi (Nat.lt_of_lt_of_le hl h.size)).trans (h.same i hi hl)⟩
theorem Keep.mono {S S' : Nat} {A B : World} (h : Keep S A B) (hS : S ≤ S') : Keep S' A B := ⟨h.size, fun k hk => h.same k (Nat.le_trans hS hk)⟩
theorem Keep.some {S : Nat} {A B : World} (h : Keep S A B) {k : Nat} {o : Obj} (hS : S ≤ k) (ho : A.heap[k]? = Option.some o) : B.heap[k]? = Option.some o := (h.same k hS (Array.getElem?_eq_some_iff.1 ho).1).trans ho
theorem Keep.fresh {S : Nat} {W W' : World} (hb : Below W.heap.size W W') : Keep S W W' := ⟨hb.size, fun k _ hk => hb.block k hk⟩
theorem Keep.put {S : Nat} (W : World) {l : Nat} (o' : Obj) (hS : l < S) : Keep S W (W.putObj l o') := ⟨by rw [size_put]; exact Nat.le_refl _, fun k hk _ => World.putObj_heap_other (by omega)⟩
/-- A store ahead of S. -/
theorem Keep.set {S : Nat} (W : World) {p : Addr} (u : Value) (hS : p.block < S) : Keep S W (W.setCell p u) :=
  ⟨by simp [World.setCell], fun k hk _ => Below.heap_setCell _ _ _ _ (by omega)⟩
theorem Keep.step {S B : Nat} {A W W' : World} (h : Keep S A W) (hB : A.heap.size ≤ B) (hs : Below B W W') : Keep S A W' :=
  ⟨Nat.le_trans h.size hs.size, fun k hk hl => (hs.block k (by omega)).trans (h.same k hk hl)⟩

/-- An iterator that comes with L, in order. -/
def SeqW {α : Type} (P : Program) (gf : Nat) (lb : Array Value) (encs : α → Array Value) (L : List α) (Good : α → Prop) (Inv : World → Prop) (S : Nat) : Prop :=
  ∀ (l : Nat) (J : Nat → World → Prop) (Jx : World → Prop), (∀ k x W, L[k]? = some x → J (k + 1) W → Good x) → (∀ k W, J k W → Inv W) → (∀ k W W', J k W → StepN S W W' → J k W') → (∀ W W', Jx W → StepN S W W' → Jx W') →
    (∀ k x W, L[k]? = some x → J k W → S ≤ W.heap.size → YieldAt Fence.wide 0 P l (encs x) W fun e W' =>
      Keep S W W' ∧ ((e = .returned (.bool true) ∧ J (k + 1) W') ∨ (e = .returned (.bool false) ∧ Jx W'))) →
    ∀ W1, J 0 W1 → S ≤ W1.heap.size →
    CallsIn Fence.wide 0 P gf (#[.func (.yield l) #[] #[]] ++ lb) W1 fun e W' => (∃ v, e = .returned v) ∧ (J L.length W' ∨ Jx W')

theorem yield_any {m m' l l' : Nat} {args : Array Value} {W : World} {R : Ending → World → Prop} (h : YieldAt Fence.wide m P l args W R) : YieldAt (Fence.wide.inRound l') m' P l args W R := by
  obtain ⟨fn, tmps, assign, body, h1, h2, h3⟩ := h
  exact ⟨fn, tmps, assign, body, h1, h2, fun c cs _ => h3 c cs (room_wide _)⟩
theorem yield_wide {m m' l : Nat} {args : Array Value} {W : World} {R : Ending → World → Prop} (h : YieldAt Fence.wide m P l args W R) : YieldAt Fence.wide m' P l args W R := by
  obtain ⟨fn, tmps, assign, body, h1, h2, h3⟩ := h
  exact ⟨fn, tmps, assign, body, h1, h2, fun c cs _ => h3 c cs (room_wide _)⟩
theorem calls_any {m m' : Nat} {f : FuncId} {args : Array Value} {W : World} {R : Ending → World → Prop} (h : CallsIn Fence.wide m P f args W R) : CallsIn Fence.wide m' P f args W R := callsIn_wide.2 (callsIn_wide.1 h)

/-- How a round's body may be left. -/
def bodyOut (B : Nat) (I : World → Prop) (Ix : Code → World → Prop) (W : World) : Exit → Act → World → Prop
  | .normal, _, W' => Keep B W W' ∧ I W'
  | .ret, _, W' => Keep B W W' ∧ Ix .ret W'
  | .exit id, _, W' => Keep B W W' ∧ Ix (.exit id) W'
  | .goto t, _, W' => Keep B W W' ∧ Ix (.goto t) W'
  | .panic _, _, _ => False
  | .outgrown, _, _ => False

theorem wpIn_rangeFunc_seqW {α : Type} {g : Operand} {ps : Array Tmp} {assign body : Code} {Q : Exit → Act → World → Prop} {a : Act} {w : World}
    {gf : Nat} {lb : Array Value} (hg : a.eval g = .func (.func gf) #[] lb) (eg : ∀ args w, (callFunc gf args).run P w = .ok (.enter gf args) w)
    {encs : α → Array Value} {L : List α} {Good : α → Prop} {Inv : World → Prop} (hseq : SeqW P gf lb encs L Good Inv (w.heap.size + 2)) (hps : ∀ x, (encs x).size = ps.size)
    (I : Nat → World → Prop) (Ix : Code → World → Prop) (hGood : ∀ k x W, L[k]? = some x → I (k + 1) W → Good x) (hInv : ∀ k W, I k W → Inv W)
    (hI : ∀ k W W', I k W → StepN w.heap.size W W' → I k W') (hIx : ∀ c W W', Ix c W → StepN w.heap.size W W' → Ix c W') (h0 : I 0 w)
    (A : α → Nat → Act → World → Prop) (hA : ∀ x m a' W W', A x m a' W → StepN w.heap.size W W' → A x m a' W')
    (hassign : ∀ (l : Nat) (x : α) (W : World) (K : Act → World → Prop), (∀ a' W', Below W.heap.size W W' → W.heap.size < W'.heap.size → A x W.heap.size a' W' → K a' W') →
      assign.wpIn (Fence.wide.inRound l) 3 P (Exit.then K (fun _ _ _ => False)) { tmps := (ps.zip (encs x)).foldl (fun t (p, v) => t.setIfInBounds p v) a.tmps, defers := [] } W)
    (hbody : ∀ (l : Nat) (k : Nat) (x : α) (m : Nat) (a' : Act) (W : World), L[k]? = some x → I k W → A x m a' W → w.heap.size + 1 < m → m < W.heap.size → body.wpIn (Fence.wide.inRound l) 3 P (bodyOut w.heap.size (I (k + 1)) Ix W) a' W)
    (hdone : ∀ (D : Nat) (W : World), w.heap.size ≤ D → I L.length W → W.heap[D]? = some (.deferred (some [])) → Q .normal { a with defers := { target := .collected D, args := #[] } :: a.defers } W)
    (hstop : ∀ (D : Nat) (c : Code) (W : World), w.heap.size ≤ D → Ix c W → W.heap[D]? = some (.deferred (some [])) → c.wpIn Fence.wide n P Q { a with defers := { target := .collected D, args := #[] } :: a.defers } W) :
    (Code.rangeFunc g ps assign body).wpIn Fence.wide n P Q a w := by
  refine wpIn_rangeFunc ?_
  intro fn hfn
  obtain ⟨rec, hrec⟩ : ∃ rec : LoopState → Option Code → Loop, rec = fun st pe => { state := st, pending := pe, fn, tmps := a.tmps, params := ps, assign, body, defers := w.heap.size } := ⟨_, rfl⟩
  obtain ⟨W1, hW1⟩ : ∃ W1, (w.alloc (.deferred (some []))).alloc (.loop (rec .ready none)) = W1 := ⟨_, rfl⟩
  have hL1 : W1.heap[w.heap.size + 1]? = some (.loop (rec .ready none)) := by
    rw [← hW1]; have := World.alloc_heap_new (w.alloc (.deferred (some []))) (.loop (rec .ready none)); rwa [World.size_alloc] at this
  have hK1 : W1.heap[w.heap.size]? = some (.deferred (some [])) := by
    rw [← hW1]; exact (Below.heap_alloc _ _ _ (by simp)).trans (World.alloc_heap_new w _)
  have hI1 : I 0 W1 := by rw [← hW1]; exact hI _ _ _ (hI _ _ _ h0 (StepN.alloc _ _ (Nat.le_refl _))) (StepN.alloc _ _ (by simp))
  have hS1 : w.heap.size + 2 ≤ W1.heap.size := by rw [← hW1]; simp
  refine ⟨w.heap.size + 1, [{ target := .collected w.heap.size, args := #[] }], W1, { target := .fn (.func gf) lb, args := #[.func (.yield (w.heap.size + 1)) #[] #[]] }, W1, gf,
    #[.func (.yield (w.heap.size + 1)) #[] #[]] ++ lb, W1, ?_, ?_, ?_, ?_, fun h => by simp [Fence.wide] at h, ?_⟩
  · rw [← hW1, hrec]; exact run_enterLoop_outer _ _ _ _ _
  · simp only [resolve, hg]
    simp [go_sem]
  · intro f' hf'; trivial
  · simp [invoke, go_sem, eg]
  · refine (calls_any (hseq (w.heap.size + 1)
      (fun k W => I k W ∧ W.heap[w.heap.size + 1]? = some (.loop (rec .ready none)) ∧ W.heap[w.heap.size]? = some (.deferred (some [])))
      (fun W => ∃ c, Ix c W ∧ W.heap[w.heap.size + 1]? = some (.loop (rec .done (some c))) ∧ W.heap[w.heap.size]? = some (.deferred (some [])))
      (fun k x A hx h => hGood k x A hx h.1)
      (fun k A h => hInv k A h.1)
      (fun k A B hs ht => ⟨hI k A B hs.1 (ht.mono (by omega)), (ht.below.block _ (by omega)).trans hs.2.1, (ht.below.block _ (by omega)).trans hs.2.2⟩)
      (fun A B hs ht => by
        obtain ⟨c, hc, hl, hk⟩ := hs
        exact ⟨c, hIx c A B hc (ht.mono (by omega)), (ht.below.block _ (by omega)).trans hl, (ht.below.block _ (by omega)).trans hk⟩)
      ?_ W1 ⟨hI1, hL1, hK1⟩ hS1)).mono ?_
    · rintro k x W hx ⟨hi, hl, hk⟩ hS
      have hlt : w.heap.size + 1 < W.heap.size := (Array.getElem?_eq_some_iff.1 hl).1
      have hy := run_yield (P := P) (args := encs x) hl (by rw [hrec]; exact hps x)
      rw [hrec] at hy
      refine yield_wide (m := 3) ⟨fn, _, assign, body, hy, roundIn_of_wpIn hfn (hassign _ x W _ ?_)⟩
      intro a' Wa hba hza hax
      have hla := (hba.block _ (by omega)).trans hl
      have hka := (hba.block _ (by omega)).trans hk
      have hia := hI _ _ _ hi (StepN.fresh (by omega) hba)
      refine ⟨_, run_beginRound hla (by rw [hrec]), ?_⟩
      have hl2 : (Wa.putObj (w.heap.size + 1) (.loop { rec .ready none with state := .busy })).heap[w.heap.size + 1]? = some (.loop { rec .ready none with state := .busy }) := World.putObj_heap_same (by omega)
      have hk2 : (Wa.putObj (w.heap.size + 1) (.loop { rec .ready none with state := .busy })).heap[w.heap.size]? = some (.deferred (some [])) := (World.putObj_heap_other (by omega)).trans hka
      have hst : StepN w.heap.size Wa (Wa.putObj (w.heap.size + 1) (.loop { rec .ready none with state := .busy })) := StepN.put _ hla rfl (by omega)
      refine wpIn_mono (hbody _ k x W.heap.size a' _ hx (hI _ _ _ hia hst) (hA _ _ _ _ _ hax hst) (by omega) (by rw [size_put]; exact hza)) ?_
      have fin : ∀ (jump : Option Code) (W3 : World), Keep w.heap.size (Wa.putObj (w.heap.size + 1) (.loop { rec .ready none with state := .busy })) W3 →
          (Instr.endRound (w.heap.size + 1) jump).run P W3 = .ok (.bool jump.isNone) (W3.putObj (w.heap.size + 1) (.loop (rec (if jump.isNone then .ready else .done) jump))) ∧
          StepN w.heap.size W3 (W3.putObj (w.heap.size + 1) (.loop (rec (if jump.isNone then .ready else .done) jump))) ∧
          (W3.putObj (w.heap.size + 1) (.loop (rec (if jump.isNone then .ready else .done) jump))).heap[w.heap.size + 1]? = some (.loop (rec (if jump.isNone then .ready else .done) jump)) ∧
          (W3.putObj (w.heap.size + 1) (.loop (rec (if jump.isNone then .ready else .done) jump))).heap[w.heap.size]? = some (.deferred (some [])) ∧
          Keep (w.heap.size + 2) W (W3.putObj (w.heap.size + 1) (.loop (rec (if jump.isNone then .ready else .done) jump))) := fun jump W3 hk3 => by
        have hl3 := hk3.some (by omega) hl2
        have hkA : Keep (w.heap.size + 2) Wa (Wa.putObj (w.heap.size + 1) (.loop { rec .ready none with state := .busy })) := Keep.put Wa _ (Nat.lt_succ_self _)
        have hkB : Keep (w.heap.size + 2) W3 (W3.putObj (w.heap.size + 1) (.loop (rec (if jump.isNone then .ready else .done) jump))) := Keep.put W3 _ (Nat.lt_succ_self _)
        have hkf : Keep (w.heap.size + 2) W (W3.putObj (w.heap.size + 1) (.loop (rec (if jump.isNone then .ready else .done) jump))) := (((Keep.fresh hba).trans hkA).trans (hk3.mono (Nat.le_add_right _ _))).trans hkB
        have := run_endRound (P := P) jump hl3
        rw [hrec] at this
        refine ⟨by rw [hrec]; exact this, StepN.put _ hl3 rfl (Nat.le_succ _), World.putObj_heap_same (Array.getElem?_eq_some_iff.1 hl3).1, (World.putObj_heap_other (by omega)).trans (hk3.some (Nat.le_refl _) hk2), hkf⟩
      rintro e a3 W3 hp
      cases e with
      | normal =>
        obtain ⟨hk3, hi3⟩ := hp
        obtain ⟨hr, hl3, hl4, hk4, hkf⟩ := fin none W3 hk3
        exact ⟨_, _, hr, hkf, .inl ⟨rfl, hI _ _ _ hi3 hl3, hl4, hk4⟩⟩
      | ret =>
        obtain ⟨hk3, hi3⟩ := hp
        obtain ⟨hr, hl3, hl4, hk4, hkf⟩ := fin (some .ret) W3 hk3
        exact ⟨_, _, hr, hkf, .inr ⟨rfl, .ret, hIx _ _ _ hi3 hl3, hl4, hk4⟩⟩
      | exit id =>
        obtain ⟨hk3, hi3⟩ := hp
        obtain ⟨hr, hl3, hl4, hk4, hkf⟩ := fin (some (.exit id)) W3 hk3
        exact ⟨_, _, hr, hkf, .inr ⟨rfl, .exit id, hIx _ _ _ hi3 hl3, hl4, hk4⟩⟩
      | goto t =>
        obtain ⟨hk3, hi3⟩ := hp
        obtain ⟨hr, hl3, hl4, hk4, hkf⟩ := fin (some (.goto t)) W3 hk3
        exact ⟨_, _, hr, hkf, .inr ⟨rfl, .goto t, hIx _ _ _ hi3 hl3, hl4, hk4⟩⟩
      | panic ch => exact hp.elim
      | outgrown => exact hp.elim
    · rintro e W2 ⟨⟨v, rfl⟩, (⟨hi, hl, hk⟩ | ⟨c, hi, hl, hk⟩)⟩
      · exact ⟨none, _, by have := run_endLoop (P := P) hl (by rw [hrec]; simp); rw [hrec] at this; exact this, hdone _ _ (Nat.le_refl _) (hI _ _ _ hi (StepN.put _ hl rfl (by omega))) ((World.putObj_heap_other (by omega)).trans hk)⟩
      · exact ⟨some c, _, by have := run_endLoop (P := P) hl (by rw [hrec]; simp); rw [hrec] at this; exact this, hstop _ c _ (Nat.le_refl _) (hIx c _ _ hi (StepN.put _ hl rfl (by omega))) ((World.putObj_heap_other (by omega)).trans hk)⟩

/-- Marks that the loops behind an activation have left. -/
def Marks (S : Nat) (ds : List Deferred) (W : World) : Prop := ∃ Ds : List Nat, ds = Ds.map (fun D => { target := .collected D, args := #[] }) ∧ Ds.Nodup ∧ ∀ D ∈ Ds, S ≤ D ∧ W.heap[D]? = some (.deferred (some []))
theorem Marks.nil (S : Nat) (W : World) : Marks S [] W := ⟨[], rfl, List.nodup_nil, fun _ h => by cases h⟩
theorem Marks.cons {S : Nat} {ds : List Deferred} {W W' : World} {D : Nat} (h : Marks S ds W) (hk : Keep S W W') (hD : W.heap.size ≤ D) (hS : S ≤ W.heap.size) (hd : W'.heap[D]? = some (.deferred (some []))) : Marks S ({ target := .collected D, args := #[] } :: ds) W' := by
  obtain ⟨Ds, rfl, hn, hp⟩ := h
  refine ⟨D :: Ds, rfl, List.nodup_cons.2 ⟨fun hm => ?_, hn⟩, fun E hE => ?_⟩
  · have := (Array.getElem?_eq_some_iff.1 (hp D hm).2).1; omega
  · rcases List.mem_cons.1 hE with rfl | hE
    · exact ⟨by omega, hd⟩
    · exact ⟨(hp E hE).1, hk.some (hp E hE).1 (hp E hE).2⟩
theorem leaves_marks {m : Nat} {fn : Func} {tmps : Array Value} {R : Ending → World → Prop} {S : Nat} : ∀ (ds : List Deferred) (W : World), Marks S ds W →
    (∀ W', StepN S W W' → LeavesInM Fence.wide m P fn tmps R [] .returning W') → LeavesInM Fence.wide m P fn tmps R ds .returning W := by
  intro ds W ⟨Ds, e, hn, hp⟩
  subst e
  induction Ds generalizing W with
  | nil => exact fun h => h W (StepN.refl _ _)
  | cons D Ds ih =>
    intro h
    have hD := hp D (by simp)
    refine ⟨by simp, .inl ⟨D, _, rfl, run_takeDeferred hD.2, ih _ (List.nodup_cons.1 hn).2 (fun E hE => ⟨(hp E (by simp [hE])).1, (World.putObj_heap_other (fun e => (List.nodup_cons.1 hn).1 (by rw [← e]; exact hE))).trans (hp E (by simp [hE])).2⟩) ?_⟩⟩
    intro W' hs
    exact h W' ((StepN.put _ hD.2 rfl hD.1).trans hs)
end Go.Proofs.Ytlhaofbncoijfaa.Nest
