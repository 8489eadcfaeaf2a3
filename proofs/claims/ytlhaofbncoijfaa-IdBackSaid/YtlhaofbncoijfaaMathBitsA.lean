/- Putting a bit to a row, both ways: the walks and the laws (several texts joined by a program). -/
import Derived.RangeFuncNested
import Derived.RangeFuncBound
import Derived.RangeFuncCalls
import Derived.RangeFuncLeaves
import Derived.Shelf.Abstract
import Derived.Shelf.RegionOpen
import Derived.WalkKit
import Derived.OwnWalkIn
import Derived.TacticsInMore
import Derived.LoopNIn
import Derived.LoopIn
import Derived.OrdersHeld
import Derived.OrdersIn
import Derived.Outline
import Derived.Lib.Hide
import Derived.Test.YtlhaofbncoijfaaBlocks
import Derived.Test.YtlhaofbncoijfaaProg
import Derived.Test.YtlhaofbncoijfaaWords
import Derived.WalkSpells
import Derived.Test.YtlhaofbncoijfaaX0
import Derived.Test.YtlhaofbncoijfaaShelf
import Derived.Test.YtlhaofbncoijfaaHandN
import Derived.Laws.BitsAllLaws
import Derived.DataShut
namespace Go.Proofs.Ytlhaofbncoijfaa.Range
set_option linter.unusedVariables false
set_option linter.unusedSimpArgs false
open Go Go.RowKit
variable {F : Fence} {n : Nat} {P : Program}

/-- An iterator value that comes with L, in order; Stp: what it does between two rounds; Kp: what a round that goes on must keep. -/
def SeqAt {α : Type} (F : Fence) (n : Nat) (P : Program) (gf : Nat) (lb : Array Value) (encs : α → Array Value) (L : List α) (Kp Stp : World → World → Prop) (W1 : World) (l : Nat) : Prop :=
  ∀ (J : Nat → World → Prop) (Jx : World → Prop), (∀ k W W', J k W → Stp W W' → J k W') → (∀ W W', Jx W → Stp W W' → Jx W') →
    (∀ k x W, L[k]? = some x → J k W → YieldAt F (n - 1) P l (encs x) W fun e W' =>
      (e = .returned (.bool true) ∧ J (k + 1) W' ∧ Kp W W') ∨ (e = .returned (.bool false) ∧ Jx W')) →
    J 0 W1 →
    CallsIn F n P gf (#[.func (.yield l) #[] #[]] ++ lb) W1 fun e W' => (∃ v, e = .returned v) ∧ (J L.length W' ∨ Jx W')

/-- How a round's body may be left. -/
def bodyOut (Kp : World → World → Prop) (I : World → Prop) (Ix : Code → World → Prop) (W : World) : Exit → Act → World → Prop
  | .normal, _, W' => KeepsOthers W W' ∧ Kp W W' ∧ I W'
  | .ret, _, W' => KeepsOthers W W' ∧ Ix .ret W'
  | .exit id, _, W' => KeepsOthers W W' ∧ Ix (.exit id) W'
  | .goto t, _, W' => KeepsOthers W W' ∧ Ix (.goto t) W'
  | .panic _, _, _ => False
  | .outgrown, _, _ => False

theorem wpIn_rangeFunc_seq {α : Type} {g : Operand} {ps : Array Tmp} {assign body : Code} {Q : Exit → Act → World → Prop} {a : Act} {w : World}
    (hro : F.round = none) (h1 : 1 ≤ n) {gf : Nat} {lb : Array Value} (hg : a.eval g = .func (.func gf) #[] lb) (hFg : F.fn gf) (eg : ∀ args w, (callFunc gf args).run P w = .ok (.enter gf args) w)
    {encs : α → Array Value} {L : List α} {Kp Stp : World → World → Prop}
    (hseq : ∀ r, SeqAt F (n - 1) P gf lb encs L Kp Stp ((w.alloc (.deferred (some []))).alloc (.loop r)) (w.heap.size + 1))
    (hSt : ∀ W W', Stp W W' → KeepsOthers W W')
    (hKt : ∀ {A B C : World}, Kp A B → Kp B C → Kp A C) (hKb : ∀ (W : World) (l : Nat) (o o' : Obj), w.heap.size ≤ l → W.heap[l]? = some o → o.isCells = false → Kp W (W.putObj l o')) (hps : ∀ x, (encs x).size = ps.size)
    (I : Nat → World → Prop) (Ix : Code → World → Prop) (hI : OwnFrom w.heap.size I) (hIx : ∀ c, OwnFrom w.heap.size (fun (_ : Unit) => Ix c))
    (hIs : ∀ k W W', I k W → Stp W W' → I k W') (hIxs : ∀ c W W', Ix c W → Stp W W' → Ix c W') (h0 : I 0 w) (a₁ : α → Act)
    (hassign : ∀ (l : Nat) (x : α) (W : World) (K : Act → World → Prop), K (a₁ x) W →
      assign.wpIn (F.inRound l) (n - 1 - 1) P (Exit.then K (fun _ _ _ => False)) { tmps := (ps.zip (encs x)).foldl (fun t (p, v) => t.setIfInBounds p v) a.tmps, defers := [] } W)
    (hbody : ∀ (l : Nat) (k : Nat) (x : α) (W : World), L[k]? = some x → I k W → w.heap.size + 1 < W.heap.size → body.wpIn (F.inRound l) (n - 1 - 1) P (bodyOut Kp (I (k + 1)) Ix W) (a₁ x) W)
    (hdone : ∀ (D : Nat) (W : World), w.heap.size ≤ D → I L.length W → W.heap[D]? = some (.deferred (some [])) → Q .normal { a with defers := { target := .collected D, args := #[] } :: a.defers } W)
    (hstop : ∀ (D : Nat) (c : Code) (W : World), w.heap.size ≤ D → Ix c W → W.heap[D]? = some (.deferred (some [])) → c.wpIn F n P Q { a with defers := { target := .collected D, args := #[] } :: a.defers } W) :
    (Code.rangeFunc g ps assign body).wpIn F n P Q a w := by
  refine wpIn_rangeFunc ?_
  intro fn hfn
  rw [hro]
  obtain ⟨rec, hrec⟩ : ∃ rec : LoopState → Option Code → Loop, rec = fun st pe => { state := st, pending := pe, fn, tmps := a.tmps, params := ps, assign, body, defers := w.heap.size } := ⟨_, rfl⟩
  have hseq1 := hseq (rec .ready none)
  obtain ⟨W1, hW1⟩ : ∃ W1, (w.alloc (.deferred (some []))).alloc (.loop (rec .ready none)) = W1 := ⟨_, rfl⟩
  rw [hW1] at hseq1
  have hL1 : W1.heap[w.heap.size + 1]? = some (.loop (rec .ready none)) := by
    rw [← hW1]; have := World.alloc_heap_new (w.alloc (.deferred (some []))) (.loop (rec .ready none)); rwa [World.size_alloc] at this
  have hK1 : W1.heap[w.heap.size]? = some (.deferred (some [])) := by
    rw [← hW1]; exact (Below.heap_alloc _ _ _ (by simp)).trans (World.alloc_heap_new w _)
  have hI1 : I 0 W1 := by rw [← hW1]; exact hI.alloc _ (hI.alloc _ h0)
  refine ⟨w.heap.size + 1, [{ target := .collected w.heap.size, args := #[] }], W1, { target := .fn (.func gf) lb, args := #[.func (.yield (w.heap.size + 1)) #[] #[]] }, W1, gf,
    #[.func (.yield (w.heap.size + 1)) #[] #[]] ++ lb, W1, ?_, ?_, ?_, ?_, fun _ => h1, ?_⟩
  · rw [← hW1, hrec]; exact run_enterLoop_outer _ _ _ _ _
  · simp only [resolve, hg]
    simp [go_sem]
  · intro f' hf'; simp [Target.leads] at hf'; subst hf'; exact hFg
  · simp [invoke, go_sem, eg]
  · refine (hseq1
      (fun k W => I k W ∧ W.heap[w.heap.size + 1]? = some (.loop (rec .ready none)) ∧ W.heap[w.heap.size]? = some (.deferred (some [])))
      (fun W => ∃ c, Ix c W ∧ W.heap[w.heap.size + 1]? = some (.loop (rec .done (some c))) ∧ W.heap[w.heap.size]? = some (.deferred (some [])))
      (fun k A B hs ht => ⟨hIs k A B hs.1 ht, (hSt A B ht).same _ _ hs.2.1 rfl, (hSt A B ht).same _ _ hs.2.2 rfl⟩)
      (fun A B hs ht => by
        obtain ⟨c, hc, hl, hk⟩ := hs
        exact ⟨c, hIxs c A B hc ht, (hSt A B ht).same _ _ hl rfl, (hSt A B ht).same _ _ hk rfl⟩)
      ?_ ⟨hI1, hL1, hK1⟩).mono ?_
    · rintro k x W hx ⟨hi, hl, hk⟩
      have hlt : w.heap.size + 1 < W.heap.size := (Array.getElem?_eq_some_iff.1 hl).1
      have hy := run_yield (P := P) (args := encs x) hl (by rw [hrec]; exact hps x)
      rw [hrec] at hy
      refine ⟨fn, _, assign, body, hy, roundIn_of_wpIn hfn (hassign _ x W _ ⟨_, run_beginRound hl (by rw [hrec]), ?_⟩)⟩
      have hl2 : (W.putObj (w.heap.size + 1) (.loop { rec .ready none with state := .busy })).heap[w.heap.size + 1]? = some (.loop { rec .ready none with state := .busy }) := World.putObj_heap_same hlt
      have hk2 : (W.putObj (w.heap.size + 1) (.loop { rec .ready none with state := .busy })).heap[w.heap.size]? = some (.deferred (some [])) := (World.putObj_heap_other (by omega)).trans hk
      have hw2 : Kp W (W.putObj (w.heap.size + 1) (.loop { rec .ready none with state := .busy })) := hKb _ _ _ _ (by omega) hl rfl
      refine wpIn_mono (hbody _ k x _ hx (hI.putObj _ hi (by omega) hl rfl) (by simpa using hlt)) ?_
      have fin : ∀ (jump : Option Code) (W3 : World), KeepsOthers (W.putObj (w.heap.size + 1) (.loop { rec .ready none with state := .busy })) W3 →
          (Instr.endRound (w.heap.size + 1) jump).run P W3 = .ok (.bool jump.isNone) (W3.putObj (w.heap.size + 1) (.loop (rec (if jump.isNone then .ready else .done) jump))) ∧
          W3.heap[w.heap.size + 1]? = some (.loop { rec .ready none with state := .busy }) ∧
          (W3.putObj (w.heap.size + 1) (.loop (rec (if jump.isNone then .ready else .done) jump))).heap[w.heap.size + 1]? = some (.loop (rec (if jump.isNone then .ready else .done) jump)) ∧
          (W3.putObj (w.heap.size + 1) (.loop (rec (if jump.isNone then .ready else .done) jump))).heap[w.heap.size]? = some (.deferred (some [])) := fun jump W3 hk3 => by
        have hl3 := hk3.same _ _ hl2 rfl
        have := run_endRound (P := P) jump hl3
        rw [hrec] at this ⊢
        exact ⟨this, by rw [hrec] at hl3; exact hl3, World.putObj_heap_same (Array.getElem?_eq_some_iff.1 hl3).1, (World.putObj_heap_other (by omega)).trans (hk3.same _ _ hk2 rfl)⟩
      rintro e a3 W3 hp
      cases e with
      | normal =>
        obtain ⟨hk3, hkp3, hi3⟩ := hp
        obtain ⟨hr, hl3, hl4, hk4⟩ := fin none W3 hk3
        exact ⟨_, _, hr, .inl ⟨rfl, ⟨hI.putObj _ hi3 (by omega) hl3 rfl, hl4, hk4⟩, hKt (hKt hw2 hkp3) (hKb _ _ _ _ (by omega) hl3 rfl)⟩⟩
      | ret =>
        obtain ⟨hk3, hi3⟩ := hp
        obtain ⟨hr, hl3, hl4, hk4⟩ := fin (some .ret) W3 hk3
        exact ⟨_, _, hr, .inr ⟨rfl, .ret, (hIx _).putObj (s := ()) _ hi3 (by omega) hl3 rfl, hl4, hk4⟩⟩
      | exit id =>
        obtain ⟨hk3, hi3⟩ := hp
        obtain ⟨hr, hl3, hl4, hk4⟩ := fin (some (.exit id)) W3 hk3
        exact ⟨_, _, hr, .inr ⟨rfl, .exit id, (hIx _).putObj (s := ()) _ hi3 (by omega) hl3 rfl, hl4, hk4⟩⟩
      | goto t =>
        obtain ⟨hk3, hi3⟩ := hp
        obtain ⟨hr, hl3, hl4, hk4⟩ := fin (some (.goto t)) W3 hk3
        exact ⟨_, _, hr, .inr ⟨rfl, .goto t, (hIx _).putObj (s := ()) _ hi3 (by omega) hl3 rfl, hl4, hk4⟩⟩
      | panic ch => exact hp.elim
      | outgrown => exact hp.elim
    · rintro e W2 ⟨⟨v, rfl⟩, (⟨hi, hl, hk⟩ | ⟨c, hi, hl, hk⟩)⟩
      · exact ⟨none, _, by have := run_endLoop (P := P) hl (by rw [hrec]; simp); rw [hrec] at this; exact this, hdone _ _ (by omega) (hI.putObj _ hi (by omega) hl rfl) ((World.putObj_heap_other (by omega)).trans hk)⟩
      · exact ⟨some c, _, by have := run_endLoop (P := P) hl (by rw [hrec]; simp); rw [hrec] at this; exact this, hstop _ c _ (by omega) ((hIx c).putObj (s := ()) _ hi (by omega) hl rfl) ((World.putObj_heap_other (by omega)).trans hk)⟩
end Go.Proofs.Ytlhaofbncoijfaa.Range
namespace Go.Proofs.Ytlhaofbncoijfaa.Orders
set_option linter.unusedVariables false
set_option linter.unusedSimpArgs false
open Go Go.RowKit
section transfer
variable {l n : Nat} {P : Program} {ops : Array Oper} {Q : Exit → Act → World → Prop} {md : Region.Mode}

theorem oper_wpIn {o : Oper} {a : Act} {w : World} {K : Act → World → Prop} (hd : ∀ c, o.op ≠ .defer c) (h : o.wp P a w K Q) : o.wpIn (Fence.wide.inRound l) n P a w K Q := by
  unfold Oper.wp at h
  unfold Oper.wpIn
  refine ⟨fun _ _ => trivial, ?_⟩
  rw [show (Fence.wide.inRound l).round = some l from rfl, Oper.semAt_some l _ _ hd]
  generalize (execOp a.eval o).run P w = r at h
  cases r with
  | ok x w' =>
    cases x <;> simp only [Oper.upon, Oper.uponIn] at h ⊢
    case value v => exact h
    case skip => exact h
    case defer d => exact h
    case enter f args =>
      refine ⟨fun h0 => by simp [Fence.wide, Fence.inRound] at h0, CallsIn.inRound l (callsIn_wide.2 (Calls.mono h fun e w'' he => ?_))⟩
      cases e <;> exact he
    case row r args =>
      refine ⟨fun h0 => by simp [Fence.wide, Fence.inRound] at h0, fun c cs _ => ?_⟩
      obtain ⟨v, w1, r1, s1⟩ := h c cs
      exact ⟨v, w1, r1, stepsIn_wide.2 s1⟩
  | halt x w' => cases x <;> simp only [Oper.upon, Oper.uponIn] at h ⊢ <;> exact h

theorem wpAnyIn_of_any (hd : ∀ (i : Nat) o, ops[i]? = some o → ∀ c, o.op ≠ .defer c) (hL : ¬ LetsOut Q) :
    ∀ (fuel : Nat) (listed : Array Bool) (a : Act) (w : World), wpAny P md ops Q fuel listed a w → wpAnyIn (Fence.wide.inRound l) n P md ops Q fuel listed a w
  | 0, _, _, _, h => h
  | fuel + 1, listed, a, w, h => ⟨h.1, fun i hi => by
      have h2 := wpOp_mono (fun a' w' h' => wpAnyIn_of_any hd hL fuel (listed.setIfInBounds i true) a' w' h') (h.2 i hi)
      unfold wpOp at h2
      unfold wpOpIn
      cases ho : ops[i]? with
      | none => simp only [ho] at h2 ⊢; exact h2
      | some o =>
        simp only [ho] at h2 ⊢
        split
        · rename_i hw
          simp only [hw, if_true] at h2
          rcases h2 with h2 | h2
          · exact oper_wpIn (hd i o ho) h2
          · exact absurd h2.2 hL
        · rename_i hw
          simp only [hw] at h2
          exact ⟨fun _ _ => trivial, h2⟩⟩

def noDefer (ops : Array Oper) : Bool := ops.all fun o => match o.op with | .defer _ => false | _ => true
theorem noDefer_spec (h : noDefer ops = true) : ∀ (i : Nat) o, ops[i]? = some o → ∀ c, o.op ≠ .defer c := by
  intro i o ho c hc
  obtain ⟨hi, rfl⟩ := Array.getElem?_eq_some_iff.1 ho
  have := (Array.all_eq_true.1 h) i hi
  rw [hc] at this
  cases this

/-- A region that draws, in a round: by the plain law. -/
theorem wpIn_region_of_any {id : Nat} {a : Act} {w : World} (hm : P.follows .mixedOrders = true) (hd : noDefer ops = true) (hL : ¬ LetsOut Q)
    (h : wpAny P .any ops Q ops.size (Array.replicate ops.size false) a w.drew) : (Code.region id ops true).wpIn (Fence.wide.inRound l) n P Q a w :=
  wpIn_region_any hm (wpAnyIn_of_any (noDefer_spec hd) hL _ _ _ _ h)
end transfer

section held
variable {P : Program} {ops : Array Oper} {Q : Exit → Act → World → Prop} {md : Region.Mode} {S : World → Prop} {g : Nat}

/-- Till operation g has come up, the world meets S. -/
def Sat (S : World → Prop) (g : Nat) (listed : Array Bool) (w : World) : Prop := listed.getD g true = false → S w

def wpAnyG (P : Program) (md : Region.Mode) (ops : Array Oper) (Q : Exit → Act → World → Prop) (S : World → Prop) (g : Nat) : Nat → Array Bool → Act → World → Prop
  | 0, listed, a, w => Region.ready md ops listed = [] ∧ Q .normal a w
  | fuel + 1, listed, a, w =>
    (Region.ready md ops listed = [] → Q .normal a w) ∧
    ∀ i ∈ Region.ready md ops listed, wpOp P ops Q i (fun a' w' => Sat S g (listed.setIfInBounds i true) w' ∧ wpAnyG P md ops Q S g fuel (listed.setIfInBounds i true) a' w') a w

theorem wpAny_of_G : ∀ (fuel : Nat) (listed : Array Bool) (a : Act) (w : World), wpAnyG P md ops Q S g fuel listed a w → wpAny P md ops Q fuel listed a w
  | 0, _, _, _, h => h
  | fuel + 1, _, _, _, h => ⟨h.1, fun i hi => wpOp_mono (fun a' w' h' => wpAny_of_G fuel _ a' w' h'.2) (h.2 i hi)⟩

theorem ready_not {listed : Array Bool} {i j : Nat} {oj : Oper} (hr : i ∈ Region.ready md ops listed) (hoj : ops[j]? = some oj) (hj : j ∈ Region.ready md ops listed) : ∀ e ∈ oj.after, Region.binds md e = true → e.on ≠ i := by
  obtain ⟨_, oj', hoj', hall⟩ := mem_ready.1 hj
  rw [hoj] at hoj'
  cases hoj'
  intro e he hb heq
  have h1 := hall e he hb
  have h0 := (mem_ready.1 hr).1
  rw [heq] at h1
  rcases Nat.lt_or_ge i listed.size with h' | h'
  · simp [h'] at h0 h1; rw [h0] at h1; cases h1
  · simp [Array.getElem?_eq_none h'] at h1

theorem wpAnyG_first {i : Nat} {oi og : Oper} {v : Value} (hi : ops[i]? = some oi) (hg : ops[g]? = some og) (hig : i ≠ g) (hw : ∃ e ∈ og.after, Region.binds md e = true ∧ e.on = i)
    (hsel : ∀ (j : Nat) (o : Oper) cs b, ops[j]? = some o → o.op ≠ .select cs b)
    (hQ : ∀ c a w, Q (.panic c) (a.put oi.dst v) w → Q (.panic c) a w) :
    ∀ (fuel : Nat) (listed : Array Bool) (a : Act) (w : World),
      (∀ j oj, ops[j]? = some oj → j ≠ i → listed.getD j true = false → (∀ e ∈ oj.after, Region.binds md e = true → e.on ≠ i) → oi.apart ops oj = true) →
      i ∈ Region.ready md ops listed → listed.getD g true = false → YieldsIf P ops S oi v a → S w →
      wpAnyG P md ops Q S g fuel (listed.setIfInBounds i true) (a.put oi.dst v) w → wpAnyG P md ops Q S g (fuel + 1) listed a w := by
  intro fuel
  induction fuel with
  | zero =>
    intro listed a w _ hr hgl hy hS H
    refine ⟨fun h => (by rw [h] at hr; cases hr), fun j hj => ?_⟩
    by_cases hji : j = i
    · subst hji; exact hy.wpOp hi hS ⟨fun _ => hS, H⟩
    · have := ready_mono hj hji
      rw [H.1] at this
      cases this
  | succ fuel ih =>
    intro listed a w hfree hr hgl hy hS H
    refine ⟨fun h => (by rw [h] at hr; cases hr), fun j hj => ?_⟩
    by_cases hji : j = i
    · subst hji; exact hy.wpOp hi hS ⟨fun _ => hS, H⟩
    · have h1 := H.2 j (ready_mono hj hji)
      obtain ⟨hjun, oj, hoj, hall⟩ := mem_ready.1 hj
      have hnot := ready_not hr hoj hj
      have hjg : j ≠ g := fun e => by
        subst e
        rw [hg] at hoj
        cases hoj
        obtain ⟨e, he, hb, heq⟩ := hw
        exact hnot e he hb heq
      have h2 := wpOp_putIf hoj (hfree j oj hoj hji hjun hnot) (fun cs b => hsel i oi cs b hi) (fun cs b => hsel j oj cs b hoj) hQ hy h1
      have hfree' : ∀ k ok, ops[k]? = some ok → k ≠ i → (listed.setIfInBounds j true).getD k true = false →
          (∀ e ∈ ok.after, Region.binds md e = true → e.on ≠ i) → oi.apart ops ok = true := fun k ok hk hki hun hno => by
        refine hfree k ok hk hki ?_ hno
        by_cases hjk : j = k
        · subst hjk; exact hjun
        · rw [getD_set_ne true hjk] at hun; exact hun
      have hgl' : (listed.setIfInBounds j true).getD g true = false := by rw [getD_set_ne true hjg]; exact hgl
      refine wpOp_mono (fun a' w' h3 => ?_) h2
      have hS' : S w' := h3.2.1 (by rw [getD_set_ne true hjg, getD_set_ne true hig]; exact hgl)
      refine ⟨fun _ => hS', ih (listed.setIfInBounds j true) a' w' hfree' (ready_mono hr (Ne.symm hji)) hgl' h3.1 hS' ?_⟩
      rw [Array.setIfInBounds_comm _ _ hji]
      exact h3.2.2

def waits (md : Region.Mode) (ops : Array Oper) (g i : Nat) : Bool := match ops[g]? with | some og => og.after.any fun e => Region.binds md e && e.on == i | none => false

/-- Take number i first: it yields v in every world that meets S; operation g waits for it. -/
theorem wpAnyG_take {i : Nat} {oi : Oper} {v : Value} {fuel : Nat} {listed : Array Bool} {a : Act} {w : World} (hi : ops[i]? = some oi)
    (hc : (Region.noSelect ops && Region.free md ops listed i && (Region.ready md ops listed).contains i && waits md ops g i && (i != g) && !listed.getD g true) = true)
    (hQ : ∀ c a w, Q (.panic c) (a.put oi.dst v) w → Q (.panic c) a w) (hy : YieldsIf P ops S oi v a) (hS : S w)
    (h : wpAnyG P md ops Q S g fuel (listed.setIfInBounds i true) (a.put oi.dst v) w) : wpAnyG P md ops Q S g (fuel + 1) listed a w := by
  simp only [Bool.and_eq_true] at hc
  obtain ⟨⟨⟨⟨⟨h1, h2⟩, h3⟩, h4⟩, h5⟩, h6⟩ := hc
  cases hg : ops[g]? with
  | none => unfold waits at h4; rw [hg] at h4; cases h4
  | some og =>
    unfold waits at h4
    rw [hg] at h4
    obtain ⟨e, he, hb⟩ := Array.any_eq_true'.1 h4
    simp only [Bool.and_eq_true, beq_iff_eq] at hb
    exact wpAnyG_first hi hg (by simpa using h5) ⟨e, he, hb.1, hb.2⟩ (Region.noSelect_spec h1) hQ fuel listed a w (Region.free_spec hi h2) (by simpa using h3) (by simpa using h6) hy hS h

/-- One alone may come up. -/
theorem wpAnyG_next {i : Nat} {o : Oper} {fuel : Nat} {listed : Array Bool} {a : Act} {w : World} (hi : ops[i]? = some o) (hr : Region.ready md ops listed = [i])
    (h : if Region.wanted o (yielded ops a.tmps) = true then o.wp P a w (fun a' w' => Sat S g (listed.setIfInBounds i true) w' ∧ wpAnyG P md ops Q S g fuel (listed.setIfInBounds i true) a' w') Q
      else Sat S g (listed.setIfInBounds i true) w ∧ wpAnyG P md ops Q S g fuel (listed.setIfInBounds i true) (a.put o.dst undef) w) : wpAnyG P md ops Q S g (fuel + 1) listed a w := by
  refine ⟨fun h0 => (by rw [hr] at h0; cases h0), fun j hj => ?_⟩
  rw [hr] at hj
  obtain rfl : j = i := by simpa using hj
  unfold wpOp
  simp only [hi]
  split
  · rename_i hw
    rw [if_pos hw] at h
    exact .inl h
  · rename_i hw
    rw [if_neg hw] at h
    exact h

/-- .. and it hands back a value, whatever becomes of the world. -/
theorem wpAnyG_run {i : Nat} {o : Oper} {v : Value} {fuel : Nat} {listed : Array Bool} {a : Act} {w w1 : World} (hi : ops[i]? = some o) (hr : Region.ready md ops listed = [i])
    (hw : Region.wanted o (yielded ops a.tmps) = true) (hrun : (execOp a.eval o).run P w = .ok (.value v) w1) (hS : Sat S g (listed.setIfInBounds i true) w1)
    (h : wpAnyG P md ops Q S g fuel (listed.setIfInBounds i true) (a.put o.dst v) w1) : wpAnyG P md ops Q S g (fuel + 1) listed a w := by
  refine wpAnyG_next hi hr ?_
  rw [if_pos hw]
  unfold Oper.wp
  rw [hrun]
  exact ⟨hS, h⟩
theorem wpAnyG_runs {i : Nat} {o : Oper} {fuel : Nat} {listed : Array Bool} {a : Act} {w w1 : World} (hi : ops[i]? = some o) (hr : Region.ready md ops listed = [i])
    (hw : Region.wanted o (yielded ops a.tmps) = true) (hrun : (execOp a.eval o).run P w = .ok .skip w1) (hS : Sat S g (listed.setIfInBounds i true) w1)
    (h : wpAnyG P md ops Q S g fuel (listed.setIfInBounds i true) (a.put o.dst undef) w1) : wpAnyG P md ops Q S g (fuel + 1) listed a w := by
  refine wpAnyG_next hi hr ?_
  rw [if_pos hw]
  unfold Oper.wp
  rw [hrun]
  exact ⟨hS, h⟩

theorem wpAnyG_done {listed : Array Bool} {a : Act} {w : World} (hr : Region.ready md ops listed = []) (h : Q .normal a w) :
    ∀ fuel, wpAnyG P md ops Q S g fuel listed a w
  | 0 => ⟨hr, h⟩
  | _ + 1 => ⟨fun _ => h, by rw [hr]; simp⟩
end held
end Go.Proofs.Ytlhaofbncoijfaa.Orders
namespace Go.Proofs.Ytlhaofbncoijfaa.Hand
set_option linter.unusedVariables false
set_option linter.unusedSimpArgs false
open Go.RowKit Go.Shelf Go.Proofs.Ytlhaofbncoijfaa.Range Go.Proofs.Ytlhaofbncoijfaa.Blocks
attribute [local go_sem] Oper.semAt_some

/-- A fact that the walk does not look into. -/
structure Aside (p : Prop) : Prop where mk :: (out : p)
def numAt (b : Nat) (w : World) : Nat := match w.cell? ⟨b, 0, none⟩ with | some c => (intOf c).toNat | none => 0
theorem numAt_eq {b : Nat} {w : World} {d : Nat} (h : w.cell? ⟨b, 0, none⟩ = some (.int .i64 (d : Int))) : numAt b w = d := by simp [numAt, h, intOf]

/-- Bit m of a number. -/
def bitAt (v : Int) (m : Nat) : Bool := bits .and .u64 v (IntKind.u64.wrap (2 ^ m)) != 0
/-- A number's bits, the highest first. -/
def highs (v : Int) (wd : Nat) : List Bool := (List.range wd).map fun i => bitAt v (wd - 1 - i)
theorem highs_length (v : Int) (wd : Nat) : (highs v wd).length = wd := by simp [highs]
theorem highs_at {v : Int} {wd i : Nat} (h : i < wd) : (highs v wd)[i]? = some (bitAt v (wd - 1 - i)) := by simp [highs, h]

/-- What the iterator does between two rounds. -/
def HighStep (Bw : Nat) (W W' : World) : Prop := ∃ x, W' = (W.setCell ⟨Bw, 0, none⟩ x).drew
/-- What the loop knows at each round's head. -/
def HighRel (Bw Bv : Nat) (v : Int) (wd : Nat) (J : Nat → World → Prop) (W : World) : Prop :=
  ∃ d : Nat, d ≤ wd ∧ W.heap[Bw]? = some (.cells #[.int .i64 (d : Int)] 3 (0, 0)) ∧ W.heap[Bv]? = some (.cells #[.int .u64 v] 53 (0, 0)) ∧ J (wd - d) W
/-- How a round may end. -/
def HighEnd (ts : List Nat) (i : Nat) (J : Nat → World → Prop) (Jx : World → Prop) (W : World) (e : Ending) (W' : World) : Prop :=
  ∃ b : Bool, e = .returned (.bool b) ∧ Aside (b = true → J (i + 1) W' ∧ KeepsTy ts W W') ∧ Aside (b = false → Jx W')

set_option maxRecDepth 100000 in
set_option maxHeartbeats 4000000 in
theorem high1_seq (F : Fence) (n : Nat) (h29 : F.fn 85) (hro : F.round = none) (hn : 1 ≤ n) (l Bw Bv : Nat) (v : Int) (wd : Nat) (hwd : wd ≤ 64) (ts : List Nat) (h3 : 3 ∉ ts) (h23 : 53 ∉ ts)
    (W : World) (hBw : W.heap[Bw]? = some (.cells #[.int .i64 wd] 3 (0, 0))) (hBv : W.heap[Bv]? = some (.cells #[.int .u64 v] 53 (0, 0))) :
    SeqAt F n Try.prog 85 #[.pointer (some ⟨Bw, 0, none⟩), .pointer (some ⟨Bv, 0, none⟩)] (fun b : Bool => #[.bool b]) (highs v wd) (KeepsTy ts) (HighStep Bw) W l := by
  intro J Jx hJ hJx hY h0
  show CallsIn F n Try.prog 85 #[.func (.yield l) #[] #[], .pointer (some ⟨Bw, 0, none⟩), .pointer (some ⟨Bv, 0, none⟩)] W _
  rw [highs_length]
  refine callsIn_of_wp Try.func85 rfl h29 ?_ hro
  simp only [Try.ntmps85, List.size_toArray, List.length_cons, List.length_nil, Nat.reduceAdd, Nat.reduceSub, Array.replicate_succ, Array.replicate_zero, List.push_toArray, List.append_toArray, List.nil_append, List.cons_append]
  gi_wp2
  gi_loopw [4] (fun _ wr => HighRel Bw Bv v wd J wr) (fun _ wr => numAt Bw wr)
  case atStart => exact ⟨wd, Nat.le_refl _, hBw, hBv, by rw [Nat.sub_self]; exact h0⟩
  case round =>
    obtain ⟨d, hd, hbw, hbv, hJi⟩ := hrel
    have hne : Bw ≠ Bv := fun e => by rw [e, hbv] at hbw; injection hbw with hbw; injection hbw with _ hbw _; cases hbw
    have hcw := cell_of_one hbw
    have hfw := free_of_one hbw
    have hcv := cell_of_one hbv
    have Hbw := Lib.hid hbw
    have Hbv := Lib.hid hbv
    clear hbw hbv
    cases d with
    | succ m =>
      have hcv' : (wr.setCell ⟨Bw, 0, none⟩ (.int .i64 (m : Int))).cell? ⟨Bv, 0, none⟩ = some (.int .u64 v) := by
        rw [World.cell?_setCell_other _ _ _ _ (by intro e; injection e with e; exact hne e)]; exact hcv
      have hcw' : (wr.setCell ⟨Bw, 0, none⟩ (.int .i64 (m : Int))).cell? ⟨Bw, 0, none⟩ = some (.int .i64 (m : Int)) :=
        World.cell?_setCell_same' _ _ _ (by rw [hcw]; rfl)
      have hfw' : (wr.setCell ⟨Bw, 0, none⟩ (.int .i64 (m : Int))).frozen? ⟨Bw, 0, none⟩ = false := by
        rw [World.frozen?_setCell]; exact hfw
      obtain ⟨fn, tmps, assign, body, hy, hR⟩ := hY (wd - (m + 1)) _ (wr.setCell ⟨Bw, 0, none⟩ (.int .i64 (m : Int))).drew (highs_at (by omega)) (hJ _ _ _ hJi ⟨_, rfl⟩)
      rw [show wd - 1 - (wd - (m + 1)) = m by omega] at hy
      unfold bitAt at hy
      have hmix : Try.prog.follows .mixedOrders = true := by kernel_rfl
      have hR2 := RoundIn.mono (R' := HighEnd ts (wd - (m + 1)) J Jx (wr.setCell ⟨Bw, 0, none⟩ (.int .i64 (m : Int))).drew) hR (by
        rintro e W3 (⟨rfl, h1, h2⟩ | ⟨rfl, h1⟩)
        · exact ⟨true, rfl, ⟨fun _ => ⟨h1, h2⟩⟩, ⟨fun h => by cases h⟩⟩
        · exact ⟨false, rfl, ⟨fun h => by cases h⟩, ⟨fun _ => h1⟩⟩)
      have hR' := Lib.hid hR2
      clear hR hR2
      have fin0 : ∀ W3, J (wd - (m + 1) + 1) W3 → KeepsTy ts (wr.setCell ⟨Bw, 0, none⟩ (.int .i64 (m : Int))).drew W3 → HighRel Bw Bv v wd J W3 ∧ numAt Bw W3 < numAt Bw wr := by
        intro W3 hJ3 hk3
        have e1 : W3.heap[Bw]? = some (.cells #[.int .i64 (m : Int)] 3 (0, 0)) := hk3 _ _ _ _ h3 (one_setCell Hbw.out)
        refine ⟨⟨m, by omega, e1, hk3 _ _ _ _ h23 ((set_other (a := ⟨Bw, 0, none⟩) (Ne.symm hne)).trans Hbv.out), ?_⟩, ?_⟩
        · rw [show wd - m = wd - (m + 1) + 1 by omega]; exact hJ3
        · rw [numAt_eq (cell_of_one e1), numAt_eq hcw]; omega
      have fin := Lib.hid fin0
      clear fin0 hY
      gi_wp2
      gi_region_with_o ((with_reducible refine RoundIn.mono hR'.out ?_); rintro e W3 ⟨b, rfl, hT, hX⟩)
      all_goals
        cases b
        · have hx := Lib.hid (hX.out rfl)
          clear hX hT
          gi_wp2
          refine bodyPost_ret (results_none rfl _ _ _) rfl ?_
          exact ⟨⟨_, rfl⟩, .inr hx.out⟩
        · have hx := Lib.hid (fin.out _ (hT.out rfl).1 (hT.out rfl).2)
          clear hX hT
          gi_wp2
          exact hx.out
    | zero =>
      gi_wp2
      go_end0
      exact ⟨⟨_, rfl⟩, .inl hJi⟩
end Go.Proofs.Ytlhaofbncoijfaa.Hand
namespace Go.Proofs.Ytlhaofbncoijfaa.Hand
set_option linter.unusedVariables false
set_option linter.unusedSimpArgs false
open Go.RowKit Go.Shelf Go.Proofs.Ytlhaofbncoijfaa.Range Go.Proofs.Ytlhaofbncoijfaa.Blocks Go.Proofs.Ytlhaofbncoijfaa.Orders
open Go.Proofs.YtlhaofbncoijfaaW.PrintWords Go.Proofs.YtlhaofbncoijfaaW.PrintLast Go.Proofs.YtlhaofbncoijfaaW.PrintMore
attribute [local go_sem] Oper.semAt_some

/-- One bit more behind a row. -/
def stepB (s : List Int × Int) (b : Bool) : List Int × Int :=
  let xs := if s.2 % 8 = 0 then s.1 ++ [0] else s.1
  (if b then xs.set (xs.length - 1) (Go.bits .or .u8 (rd xs ((xs.length : Int) - 1)) (128 / 2 ^ (s.2 % 8).toNat)) else xs, s.2 + 1)

theorem stepB_inv {s : List Int × Int} (b : Bool) (h : (s.2 + 7) / 8 = s.1.length) : ((stepB s b).2 + 7) / 8 = (stepB s b).1.length ∧ (stepB s b).2 = s.2 + 1 := by
  unfold stepB
  refine ⟨?_, rfl⟩
  by_cases h8 : s.2 % 8 = 0 <;> cases b <;> simp [h8] <;> omega
theorem fold_inv : ∀ (L : List Bool) (s : List Int × Int), (s.2 + 7) / 8 = s.1.length → ((L.foldl stepB s).2 + 7) / 8 = (L.foldl stepB s).1.length ∧ (L.foldl stepB s).2 = s.2 + L.length
  | [], s, h => ⟨h, by simp⟩
  | b :: L, s, h => by
    have h1 := stepB_inv b h
    have h2 := fold_inv L (stepB s b) h1.1
    refine ⟨h2.1, ?_⟩
    show (L.foldl stepB (stepB s b)).2 = _
    rw [h2.2, h1.2, List.length_cons]
    omega

/-- The row that lies at br. -/
def RowIs (base br : Nat) (s : List Int × Int) (W : World) : Prop :=
  ∃ sv, W.heap[br]? = some (.cells #[sv, .int .i64 s.2] 96 (0, 0)) ∧ W.ownsRow base 5 1 sv s.1.length (nums .u8 s.1)

theorem info5 : (Try.prog.info? 5).map (fun i => (i.zero, i.size, i.bytes)) = some (some (.int .u8 0), 1, 1) := by kernel_rfl

theorem high_calls (n : Nat) (v wd : Int) (w : World) :
    CallsIn Fence.wide n Try.prog 79 #[.int .u64 v, .int .i64 wd] w fun e w' =>
      e = .returned (.func (.func 85) #[] #[.pointer (some ⟨w.heap.size + 1, 0, none⟩), .pointer (some ⟨w.heap.size, 0, none⟩)]) ∧
      w' = (w.alloc (.cells #[.int .u64 v] 53)).alloc (.cells #[.int .i64 wd] 3) := by
  refine callsIn_of_wp Try.func79 rfl trivial ?_ rfl
  simp only [Try.ntmps79, List.size_toArray, List.length_cons, List.length_nil, Nat.reduceAdd, Nat.reduceSub, Array.replicate_succ, Array.replicate_zero, List.push_toArray, List.append_toArray, List.nil_append, List.cons_append]
  gi_wp2
  go_ret
  exact ⟨rfl, rfl⟩

/-- What stands between two rounds. -/
def PutI (base br Br Bw : Nat) (w0 : World) (s : List Int × Int) (W : World) : Prop :=
  RowIs base br s W ∧ W.heap[Br]? = some (.cells #[.pointer (some ⟨br, 0, none⟩)] 104 (0, 0)) ∧ (∃ c fr, W.heap[Bw]? = some (.cells c 3 fr)) ∧ Below base w0 W

theorem typed_grown {W W' : World} {row : Option Nat} (hg : W.grownBy W' row) (hr : ∀ r, row = some r → ∃ o : Obj, W.heap[r]? = some o ∧ o.isCells = false) : KeepsTy [] W W' :=
  KeepsTy.of_grownBy_other hg hr
theorem owns_keeps {W W' : World} {ts : List Nat} (hk : KeepsTy ts W W') {base e size n : Nat} (he : e ∉ ts) {v : Value} {xs : List Value}
    (h : W.ownsRow base e size v n xs) : W'.ownsRow base e size v n xs :=
  own_move h fun k hkk => by
    obtain ⟨c, hc⟩ := own_block h k hkk
    exact (hk _ _ _ _ he hc).trans hc.symm
theorem RowIs.keeps {base br : Nat} {W W' : World} {s : List Int × Int} {ts : List Nat} (h : RowIs base br s W) (hk : KeepsTy ts W W') (h44 : 96 ∉ ts) (h5 : 5 ∉ ts) : RowIs base br s W' := by
  obtain ⟨sv, h1, h2⟩ := h
  exact ⟨sv, hk _ _ _ _ h44 h1, owns_keeps hk h5 h2⟩

theorem PutI.grown {base br Br Bw : Nat} {w0 W W' : World} {s : List Int × Int} (h : PutI base br Br Bw w0 s W) {B : Nat} (hB : base ≤ B) (hBr : base ≤ Br) {row : Option Nat} (hg : W.grownBy W' row)
    (hr : ∀ r, row = some r → B ≤ r ∧ ∃ o : Obj, W.heap[r]? = some o ∧ o.isCells = false) : PutI base br Br Bw w0 s W' := by
  obtain ⟨h1, h2, ⟨c, fr, h3⟩, h4⟩ := h
  have hk := typed_grown hg (fun r e => (hr r e).2)
  have hlt := lt_of h2
  exact ⟨h1.keeps hk (by simp) (by simp), hk _ _ _ _ (by simp) h2, ⟨c, fr, hk _ _ _ _ (by simp) h3⟩, h4.grown hg (by omega) (fun k e => Nat.le_trans hB (hr k e).1)⟩

theorem PutI.step {base br Br Bw : Nat} {w0 W W' : World} {s : List Int × Int} (h : PutI base br Br Bw w0 s W) (hB : base ≤ Bw) (hst : HighStep Bw W W') : PutI base br Br Bw w0 s W' := by
  obtain ⟨x, rfl⟩ := hst
  obtain ⟨h1, h2, ⟨c, fr, h3⟩, h4⟩ := h
  have hk : KeepsTy [3] W (W.setCell ⟨Bw, 0, none⟩ x).drew := (KeepsTy.setCell h3 (by simp) 0 x).trans (KeepsTy.drew _ _)
  obtain ⟨c', h3'⟩ := set_typed h3 0 x
  exact ⟨h1.keeps hk (by simp) (by simp), hk _ _ _ _ (by simp) h2, ⟨c', fr, h3'⟩, (h4.setCell (p := ⟨Bw, 0, none⟩) hB x).drew⟩

theorem wrap_nat {p : Nat} (h : p + 1 ≤ 140737488355328) : IntKind.i64.wrap (p : Int) = (p : Int) := by
  rw [i64_w]; unfold wrap64; omega
theorem own_at {base g p cap : Nat} {W : World} {zs : List Int} (h : W.ownsRow base 5 1 (.slice (some ⟨g, 0, none⟩) (p + 1) cap) zs.length (nums .u8 zs)) (hl : zs.length = p + 1) :
    W.cell? ⟨g, p, none⟩ = some (.int .u8 (zs.getD p 0)) ∧ W.frozen? ⟨g, p, none⟩ = false := by
  rw [hl] at h
  have h2 := own_at_of (enc := Value.int .u8) (d := (0 : Int)) h (p : Int) (by omega) (by omega)
  rw [Int.toNat_natCast] at h2
  exact h2
theorem put_fin {base br Br Bw : Nat} {w0 W W2 : World} {zs : List Int} {m : Int} {sv2 : Value} (hbr : base ≤ br) (hKO : KeepsOthers W W2) (hKT : KeepsTy [5, 96] W W2)
    (hrow : W2.heap[br]? = some (.cells #[sv2, .int .i64 m] 96 (0, 0))) (hown : W2.ownsRow base 5 1 sv2 zs.length (nums .u8 zs)) (hbox : W2.heap[Br]? = some (.cells #[.pointer (some ⟨br, 0, none⟩)] 104 (0, 0)))
    (hbw : ∃ c fr, W2.heap[Bw]? = some (.cells c 3 fr)) (hbel : Below base w0 W2) :
    KeepsOthers W (W2.setCell ⟨br, 1, none⟩ (.int .i64 (m + 1))) ∧ KeepsTy [5, 96] W (W2.setCell ⟨br, 1, none⟩ (.int .i64 (m + 1))) ∧ PutI base br Br Bw w0 (zs, m + 1) (W2.setCell ⟨br, 1, none⟩ (.int .i64 (m + 1))) := by
  obtain ⟨c, fr, hbw⟩ := hbw
  have hk : KeepsTy [96] W2 (W2.setCell ⟨br, 1, none⟩ (.int .i64 (m + 1))) := KeepsTy.setCell hrow (by simp) 1 _
  refine ⟨hKO.trans (others_set _ _ _), hKT.trans (fun k c t fr ht h => hk k c t fr (by simp at ht ⊢; exact ht.2) h), ⟨sv2, set1 hrow, owns_keeps hk (by simp) hown⟩, hk _ _ _ _ (by simp) hbox, ⟨c, fr, hk _ _ _ _ (by simp) hbw⟩, hbel.setCell (p := ⟨br, 1, none⟩) hbr _⟩

/-- A bit of the row's last byte is laid. -/
theorem put_bit {base br Br Bw g p cap : Nat} {w0 W W2 : World} {zs : List Int} {m x : Int} (hKO : KeepsOthers W W2) (hKT : KeepsTy [5, 96] W W2)
    (hrow : W2.heap[br]? = some (.cells #[.slice (some ⟨g, 0, none⟩) (p + 1) cap, .int .i64 m] 96 (0, 0))) (hl : zs.length = p + 1) (hown : W2.ownsRow base 5 1 (.slice (some ⟨g, 0, none⟩) (p + 1) cap) zs.length (nums .u8 zs)) (hbox : W2.heap[Br]? = some (.cells #[.pointer (some ⟨br, 0, none⟩)] 104 (0, 0)))
    (hbw : ∃ c fr, W2.heap[Bw]? = some (.cells c 3 fr)) (hbel : Below base w0 W2) :
    KeepsOthers W (W2.drew.setCell ⟨g, p, none⟩ (.int .u8 x)) ∧ KeepsTy [5, 96] W (W2.drew.setCell ⟨g, p, none⟩ (.int .u8 x)) ∧
    (W2.drew.setCell ⟨g, p, none⟩ (.int .u8 x)).heap[br]? = some (.cells #[.slice (some ⟨g, 0, none⟩) (p + 1) cap, .int .i64 m] 96 (0, 0)) ∧
    (W2.drew.setCell ⟨g, p, none⟩ (.int .u8 x)).ownsRow base 5 1 (.slice (some ⟨g, 0, none⟩) (p + 1) cap) (zs.set p x).length (nums .u8 (zs.set p x)) ∧
    (W2.drew.setCell ⟨g, p, none⟩ (.int .u8 x)).heap[Br]? = some (.cells #[.pointer (some ⟨br, 0, none⟩)] 104 (0, 0)) ∧
    (∃ c fr, (W2.drew.setCell ⟨g, p, none⟩ (.int .u8 x)).heap[Bw]? = some (.cells c 3 fr)) ∧ Below base w0 (W2.drew.setCell ⟨g, p, none⟩ (.int .u8 x)) := by
  obtain ⟨c, fr, hbw⟩ := hbw
  obtain ⟨cg, hg⟩ := own_block hown g rfl
  have hk : KeepsTy [5] W2 (W2.drew.setCell ⟨g, p, none⟩ (.int .u8 x)) := (KeepsTy.drew _ _).trans (KeepsTy.setCell (W := W2.drew) hg (by simp) p _)
  have hb : base ≤ g := own_base hown g rfl
  rw [hl] at hown
  have hst := (own_store hown.drew (p : Int) x).1
  rw [Int.toNat_natCast] at hst
  refine ⟨hKO.trans ((others_drew _).trans (others_set _ _ _)), hKT.trans (fun k c t fr ht h => hk k c t fr (by simp at ht ⊢; exact ht.1) h), hk _ _ _ _ (by simp) hrow, by rw [List.length_set, hl]; exact hst, hk _ _ _ _ (by simp) hbox, ⟨c, fr, hk _ _ _ _ (by simp) hbw⟩, hbel.drew.setCell (p := ⟨g, p, none⟩) hb _⟩

set_option maxRecDepth 100000 in
set_option maxHeartbeats 4000000 in
theorem row_put_calls (base br : Nat) (w0 w : World) (xs : List Int) (nn v : Int) (wd : Nat) (hwd : wd ≤ 64) (hnn : 0 ≤ nn) (hr : (nn + 7) / 8 = xs.length) (hl : xs.length + 9 ≤ 140737488355328)
    (hrow : RowIs base br (xs, nn) w) (hB : Below base w0 w) (hbr : base ≤ br) (hbase : base ≤ w.heap.size) :
    CallsIn Fence.wide 3 Try.prog 72 #[.pointer (some ⟨br, 0, none⟩), .int .u64 v, .int .i64 wd] w fun e w' =>
      (∃ r, e = .returned r) ∧ RowIs base br ((highs v wd).foldl stepB (xs, nn)) w' ∧ Below base w0 w' := by
  have h1 : 1 ≤ 3 := by omega
  refine callsIn_of_wp_marks Try.func72 rfl trivial ?_ rfl
  simp only [Try.ntmps72, List.size_toArray, List.length_cons, List.length_nil, Nat.reduceAdd, Nat.reduceSub, Array.replicate_succ, Array.replicate_zero, List.push_toArray, List.append_toArray, List.nil_append, List.cons_append]
  gi_wp2_with (refine ⟨trivial, ?_⟩; gi_at_call 79; refine (high_calls _ _ _ _).mono ?_; rintro e w' ⟨rfl, rfl⟩)
  obtain ⟨W0, hW0⟩ : ∃ W0, ((w.alloc (.cells #[.pointer (some ⟨br, 0, none⟩)] 104)).alloc (.cells #[.int .u64 v] 53)).alloc (.cells #[.int .i64 wd] 3) = W0 := ⟨_, rfl⟩
  have hsz : W0.heap.size = w.heap.size + 3 := by rw [← hW0]; simp
  rw [hW0]
  have hBr : W0.heap[w.heap.size]? = some (.cells #[.pointer (some ⟨br, 0, none⟩)] 104 (0, 0)) := by
    rw [← hW0]; exact alloc_at (alloc_at (alloc_new w _) _) _
  have hBv : W0.heap[w.heap.size + 1]? = some (.cells #[.int .u64 v] 53 (0, 0)) := by
    rw [← hW0]; refine alloc_at ?_ _; have := alloc_new (w.alloc (.cells #[.pointer (some ⟨br, 0, none⟩)] 104)) (.cells #[.int .u64 v] 53); rwa [World.size_alloc] at this
  have hBw : W0.heap[w.heap.size + 2]? = some (.cells #[.int .i64 wd] 3 (0, 0)) := by
    rw [← hW0]; have := alloc_new ((w.alloc (.cells #[.pointer (some ⟨br, 0, none⟩)] 104)).alloc (.cells #[.int .u64 v] 53)) (.cells #[.int .i64 wd] 3); rwa [World.size_alloc, World.size_alloc] at this
  have hk0 : KeepsTy [] w W0 := by rw [← hW0]; exact ((KeepsTy.alloc _ _ _).trans (KeepsTy.alloc _ _ _)).trans (KeepsTy.alloc _ _ _)
  have hB0 : Below base w0 W0 := by rw [← hW0]; exact ((hB.alloc hbase _).alloc (by simp; omega) _).alloc (by simp; omega) _
  have hI0 : PutI base br w.heap.size (w.heap.size + 2) w0 (xs, nn) W0 := ⟨hrow.keeps hk0 (by simp) (by simp), hBr, ⟨_, _, hBw⟩, hB0⟩
  refine wpIn_rangeFunc_seq rfl h1 (gf := 85) (lb := #[.pointer (some ⟨w.heap.size + 2, 0, none⟩), .pointer (some ⟨w.heap.size + 1, 0, none⟩)]) rfl trivial (enters_of Try.func85 (by kernel_rfl) rfl)
    (fun r => high1_seq Fence.wide 2 trivial rfl (by omega) _ (w.heap.size + 2) (w.heap.size + 1) v wd hwd [5, 96] (by simp) (by simp) _ (alloc_at (alloc_at hBw _) _) (alloc_at (alloc_at hBv _) _))
    (fun W W' ⟨x, e⟩ => by rw [e]; exact (others_set _ _ _).trans (others_drew _)) (KeepsTy.trans) (fun W l o o' _ h ho => KeepsTy.putObj o' h ho) (fun _ => rfl)
    (fun k W => PutI base br w.heap.size (w.heap.size + 2) w0 (((highs v wd).take k).foldl stepB (xs, nn)) W) (fun _ _ => False)
    (fun s A B row hs hg hr => hs.grown (by omega) hbase hg hr) (fun _ _ _ _ _ h _ _ => h) (fun k W W' h hs => h.step (by omega) hs) (fun _ _ _ h _ => h) hI0 ?a1 ?assign ?body ?done ?stop
  case assign =>
    intro l x W K hK
    have hK' := Lib.hid hK
    clear hK
    gi_wp2
    exact hK'.out
  case stop =>
    rintro D c W _ h _
    exact h.elim
  case done =>
    intro D W hD hI hK
    rw [highs_length, List.take_of_length_le (by rw [highs_length]; omega)] at hI
    gi_wp2
    refine ⟨by simp, .inl ⟨_, _, rfl, run_takeDeferred hK, ?_⟩⟩
    have hkp : KeepsTy [] W (W.putObj D (.deferred none)) := KeepsTy.putObj _ hK rfl
    refine ⟨_, results_none rfl _ _ _, ⟨_, rfl⟩, hI.1.keeps hkp (by simp) (by simp), ?_⟩
    have := lt_of hI.2.1
    exact hI.2.2.2.grown (grownBy_putObj' W D _) (by omega) (fun r e => by cases e; omega)
  case body =>
    intro l k b W hx hI hlt
    have hk : k < wd := by have := (List.getElem?_eq_some_iff.1 hx).1; rwa [highs_length] at this
    have hinv := fold_inv ((highs v wd).take k) (xs, nn) hr
    rw [List.length_take, highs_length, Nat.min_eq_left (by omega)] at hinv
    obtain ⟨s, hs⟩ : ∃ s, ((highs v wd).take k).foldl stepB (xs, nn) = s := ⟨_, rfl⟩
    have hs1 : ((highs v wd).take (k + 1)).foldl stepB (xs, nn) = stepB s b := by
      rw [List.take_add_one, hx, List.foldl_append, hs]; rfl
    rw [hs] at hI hinv
    rw [hs1]
    obtain ⟨ys, m⟩ := s
    obtain ⟨hlen, hm⟩ := hinv
    dsimp only at hlen hm
    have hm0 : 0 ≤ m := by omega
    have hm1 : m ≤ 1125899906842624 * 8 := by omega
    have hyl : ys.length + 1 ≤ 140737488355328 := by omega
    clear hx hs hs1 hlt hm hk
    obtain ⟨⟨sv, hbr1, hown⟩, hbox, ⟨cw, fw, hbw⟩, hbel⟩ := hI
    have hcb := cell_of_one hbox
    have hc0 := cell0 hbr1
    have hc1 := cell1 hbr1
    have hf0 := free2 hbr1
    have Hbox := Lib.hid hbox
    have Hbr1 := Lib.hid hbr1
    have Hown := Lib.hid hown
    have Hbw := Lib.hid hbw
    clear hbox hbr1 hown hbw hI0 hBr hBv hBw hrow hr hl
    obtain ⟨i0, hi0, hz0, hz1, hz2⟩ := info_parts info5
    have fin2 := Lib.hid (show ∀ (c : Bool) (V : World) (zs : List Int), stepB (ys, m) c = (zs, m + 1) → KeepsOthers W V ∧ KeepsTy [5, 96] W V ∧ PutI base br w.heap.size (w.heap.size + 2) w0 (zs, m + 1) V →
        ∀ a, bodyOut (KeepsTy [5, 96]) (fun W => PutI base br w.heap.size (w.heap.size + 2) w0 (stepB (ys, m) c) W) (fun _ _ => False) W .normal a V from fun c V zs e h a => by rw [e]; exact h)
    have hmix : Try.prog.follows .mixedOrders = true := by kernel_rfl
    by_cases h8 : m % 8 = 0
    · gi_wp2
      refine wpIn_region_of_any hmix (by kernel_rfl) (by rintro ⟨_, _, h⟩; exact h) (wpAny_of_G (S := fun w' => w'.cell? ⟨w.heap.size, 0, none⟩ = some (.pointer (some ⟨br, 0, none⟩)) ∧ w'.cell? ⟨br, 0, none⟩ = some sv) (g := 9) _ _ _ _ ?_)
      change wpAnyG _ _ _ _ _ _ 10 #[false, false, false, false, false, false, false, false, false, false] _ _
      have hdr : W.drew.cell? ⟨w.heap.size, 0, none⟩ = some (.pointer (some ⟨br, 0, none⟩)) ∧ W.drew.cell? ⟨br, 0, none⟩ = some sv := ⟨hcb, hc0⟩
      refine wpAnyG_take (i := 0) (v := .pointer (some ⟨br, 0, none⟩)) rfl (by kernel_rfl) (fun _ _ _ h => h) (.inl ⟨rfl, fun w' ⟨s1, s2⟩ => by go_simp⟩) hdr ?_
      refine wpAnyG_take (i := 1) (v := .pointer (some ⟨br, 0, none⟩)) rfl (by kernel_rfl) (fun _ _ _ h => h) (.inl ⟨rfl, fun w' ⟨s1, s2⟩ => by go_simp⟩) hdr ?_
      refine wpAnyG_take (i := 2) (v := .pointer (some ⟨br, 0, none⟩)) rfl (by kernel_rfl) (fun _ _ _ h => h) (.inl ⟨rfl, fun w' ⟨s1, s2⟩ => by go_simp⟩) hdr ?_
      refine wpAnyG_take (i := 3) (v := .pointer (some ⟨br, 0, none⟩)) rfl (by kernel_rfl) (fun _ _ _ h => h) (.inl ⟨rfl, fun w' ⟨s1, s2⟩ => by go_simp⟩) hdr ?_
      refine wpAnyG_take (i := 4) (v := sv) rfl (by kernel_rfl) (fun _ _ _ h => h) (.inl ⟨rfl, fun w' ⟨s1, s2⟩ => by go_simp⟩) hdr ?_
      refine wpAnyG_run (i := 5) (v := .slice (some ⟨W.heap.size, 0, none⟩) 1 1) (w1 := W.drew.alloc (.cells #[.int .u8 0] 5)) rfl (by kernel_rfl) rfl (by go_simp; done) (fun _ => ⟨cell_of_one (alloc_at (W := W.drew) Hbox.out _), cell0 (alloc_at (W := W.drew) Hbr1.out _)⟩) ?_
      have hsz2 : W.drew.heap.size = W.heap.size := rfl
      have hbs : base ≤ W.heap.size := by have := lt_of Hbox.out; omega
      refine wpAnyG_next (i := 6) rfl (by kernel_rfl) ?_
      refine step_append_lies (W.drew.alloc (.cells #[.int .u8 0] 5)) rfl _ _ 43 rfl base 5 i0 (.int .u8 0) 1 1 Try.underlying43 hi0 hz0 hz1 hz2 rfl (by decide) sv ys.length (nums .u8 ys) rfl (Hown.out.drew.alloc _) ⟨W.heap.size, 0, none⟩ 1 1 [.int .u8 0] rfl rfl
        ?hnews (by simp [Value.oneCell']) (by omega) (by unfold maxLen; omega) (by omega) (by rw [World.size_alloc]; omega) _ rfl ?_
      case hnews => exact World.news_of_block (cs := #[.int .u8 0]) (t := 5) (fr := (0, 0)) (alloc_new W.drew _)
      intro g cap w1 hown1 hg1 hat1 hlt1
      have hkT : KeepsTy [5] W w1 := ((KeepsTy.drew [5] W).trans (KeepsTy.alloc [5] W.drew _)).trans (KeepsTy.of_grownBy hg1 (fun j hj => by
        obtain ⟨c, hc⟩ := own_block (Hown.out.drew.alloc (.cells #[.int .u8 0] 5)) j hj
        exact ⟨c, 5, (0, 0), by simp, hc⟩))
      have hbox2 := hkT _ _ _ _ (by simp) Hbox.out
      have hbr2 := hkT _ _ _ _ (by simp) Hbr1.out
      have hs2 : w1.cell? ⟨w.heap.size, 0, none⟩ = some (.pointer (some ⟨br, 0, none⟩)) ∧ w1.cell? ⟨br, 0, none⟩ = some sv := ⟨cell_of_one hbox2, cell0 hbr2⟩
      have hs2a := hs2.1
      have hs2b := hs2.2
      have hf2 := free2 hbr2 0
      refine ⟨fun _ => hs2, ?_⟩
      refine wpAnyG_run (i := 7) (v := .pointer (some ⟨br, 0, none⟩)) (w1 := w1) rfl (by kernel_rfl) rfl (by go_simp; done) (fun _ => hs2) ?_
      refine wpAnyG_run (i := 8) (v := .pointer (some ⟨br, 0, none⟩)) (w1 := w1) rfl (by kernel_rfl) rfl (by go_simp; done) (fun _ => hs2) ?_
      refine wpAnyG_runs (i := 9) (w1 := w1.setCell ⟨br, 0, none⟩ (.slice (some ⟨g, 0, none⟩) (ys.length + 1) cap)) rfl (by kernel_rfl) rfl (by go_simp; done) (fun h => Bool.noConfusion (show true = false from h)) ?_
      refine wpAnyG_done (by kernel_rfl) ?_ 0
      have hb3 := set0 (u := .slice (some ⟨g, 0, none⟩) (ys.length + 1) cap) hbr2
      obtain ⟨W2, hW2⟩ : ∃ W2, w1.setCell ⟨br, 0, none⟩ (.slice (some ⟨g, 0, none⟩) (ys.length + 1) cap) = W2 := ⟨_, rfl⟩
      obtain ⟨p, hp⟩ : ∃ p, ys.length = p := ⟨_, rfl⟩
      obtain ⟨zs, hzs⟩ : ∃ zs, ys ++ [0] = zs := ⟨_, rfl⟩
      have hk45 : KeepsTy [5, 96] W w1 := fun k c t fr ht h => hkT k c t fr (by simp at ht ⊢; exact ht.1) h
      have hkS : KeepsTy [96] w1 W2 := by rw [← hW2]; exact KeepsTy.setCell hbr2 (by simp) 0 _
      have hbe1 : Below base w0 w1 := (hbel.drew.alloc hbs _).grown hg1 (by simp; omega) (own_base (Hown.out.drew.alloc (.cells #[.int .u8 0] 5)))
      have F1 : W2.heap[w.heap.size]? = some (.cells #[.pointer (some ⟨br, 0, none⟩)] 104 (0, 0)) := hkS _ _ _ _ (by simp) hbox2
      have F2 : W2.heap[br]? = some (.cells #[.slice (some ⟨g, 0, none⟩) (p + 1) cap, .int .i64 m] 96 (0, 0)) := by rw [← hW2, ← hp]; exact hb3
      have hzl : zs.length = p + 1 := by rw [← hzs, List.length_append, hp]; rfl
      have F3 : W2.ownsRow base 5 1 (.slice (some ⟨g, 0, none⟩) (p + 1) cap) zs.length (nums .u8 zs) := by
        rw [hzl, ← hzs, nums_append, ← hp]; exact owns_keeps hkS (by simp) hown1
      have hk1 : KeepsOthers W W2 := by
        rw [← hW2]
        exact (((others_drew W).trans (KeepsOthers.alloc _ _)).trans (others_grown hg1 (fun j hj => by
          obtain ⟨c, hc⟩ := own_block (Hown.out.drew.alloc (.cells #[.int .u8 0] 5)) j hj
          exact ⟨c, 5, (0, 0), hc⟩))).trans (others_set _ _ _)
      have hk2 : KeepsTy [5, 96] W W2 := hk45.trans (fun k c t fr ht h => hkS k c t fr (by simp at ht ⊢; exact ht.2) h)
      have hbw2 : ∃ c fr, W2.heap[w.heap.size + 2]? = some (.cells c 3 fr) := ⟨cw, fw, hk2 _ _ _ _ (by simp) Hbw.out⟩
      have hbel2 : Below base w0 W2 := by rw [← hW2]; exact hbe1.setCell (p := ⟨br, 0, none⟩) hbr _
      have hstep := Lib.hid (show ∀ c, stepB (ys, m) c = (if c then zs.set p (Go.bits .or .u8 (zs.getD p 0) (128 / 2 ^ (m % 8).toNat)) else zs, m + 1) from fun c => by
        unfold stepB
        rw [if_pos h8, hzs]
        dsimp only
        rw [hzl]
        simp [rd])
      rw [hW2, hp]
      have hpb : p + 1 ≤ 140737488355328 := by rw [← hp]; exact hyl
      clear hs2 hs2a hs2b hf2 hdr hcb hc0 hc1 hf0 hW2 hp hzs hb3 hbr2 hbox2 hkS hbe1 hk45 hkT hlt1 hat1 hg1 hown1 Hbox Hbr1 Hown Hbw hbel hlen
      simp only [Act.put]

      have hcb := cell_of_one F1
      have hc0 := cell0 F2
      have hc1 := cell1 F2
      have hf0 := free2 F2
      have hcell := own_at (p := p) F3 hzl
      have hcg := hcell.1
      have hfg := hcell.2
      have H1 := Lib.hid F1
      have H2 := Lib.hid F2
      have H3 := Lib.hid F3
      have Hz := Lib.hid hzl
      have H8 := Lib.hid h8
      clear F1 F2 F3 hcell hzl h8
      cases b
      · gi_wp2
        have fin := put_fin hbr hk1 hk2 H2.out H3.out H1.out hbw2 hbel2
        exact fin2.out false _ zs (by rw [hstep.out]; rfl) fin _
      · gi_wp2
        refine wpIn_region_of_any hmix (by kernel_rfl) (by rintro ⟨_, _, h⟩; exact h) (wpAny_of_G (S := fun w' => w'.cell? ⟨w.heap.size, 0, none⟩ = some (.pointer (some ⟨br, 0, none⟩)) ∧ w'.cell? ⟨br, 0, none⟩ = some (.slice (some ⟨g, 0, none⟩) (p + 1) cap) ∧ w'.cell? ⟨br, 1, none⟩ = some (.int .i64 m) ∧ w'.cell? ⟨g, p, none⟩ = some (.int .u8 (zs.getD p 0))) (g := 20) _ _ _ _ ?_)
        change wpAnyG _ _ _ _ _ _ 21 #[false, false, false, false, false, false, false, false, false, false, false, false, false, false, false, false, false, false, false, false, false] _ _
        have hdr : W2.drew.cell? ⟨w.heap.size, 0, none⟩ = some (.pointer (some ⟨br, 0, none⟩)) ∧ W2.drew.cell? ⟨br, 0, none⟩ = some (.slice (some ⟨g, 0, none⟩) (p + 1) cap) ∧ W2.drew.cell? ⟨br, 1, none⟩ = some (.int .i64 m) ∧ W2.drew.cell? ⟨g, p, none⟩ = some (.int .u8 (zs.getD p 0)) := ⟨hcb, hc0, hc1, hcg⟩
        refine wpAnyG_take (i := 0) (v := .pointer (some ⟨br, 0, none⟩)) rfl (by kernel_rfl) (fun _ _ _ h => h) (.inl ⟨rfl, fun w' ⟨s1, s2, s3, s4⟩ => by go_simp⟩) hdr ?_
        refine wpAnyG_take (i := 1) (v := .pointer (some ⟨br, 0, none⟩)) rfl (by kernel_rfl) (fun _ _ _ h => h) (.inl ⟨rfl, fun w' ⟨s1, s2, s3, s4⟩ => by go_simp⟩) hdr ?_
        refine wpAnyG_take (i := 2) (v := .pointer (some ⟨br, 0, none⟩)) rfl (by kernel_rfl) (fun _ _ _ h => h) (.inl ⟨rfl, fun w' ⟨s1, s2, s3, s4⟩ => by go_simp⟩) hdr ?_
        refine wpAnyG_take (i := 3) (v := .slice (some ⟨g, 0, none⟩) (p + 1) cap) rfl (by kernel_rfl) (fun _ _ _ h => h) (.inl ⟨rfl, fun w' ⟨s1, s2, s3, s4⟩ => by go_simp⟩) hdr ?_
        refine wpAnyG_take (i := 4) (v := .pointer (some ⟨br, 0, none⟩)) rfl (by kernel_rfl) (fun _ _ _ h => h) (.inl ⟨rfl, fun w' ⟨s1, s2, s3, s4⟩ => by go_simp⟩) hdr ?_
        refine wpAnyG_take (i := 5) (v := .pointer (some ⟨br, 0, none⟩)) rfl (by kernel_rfl) (fun _ _ _ h => h) (.inl ⟨rfl, fun w' ⟨s1, s2, s3, s4⟩ => by go_simp⟩) hdr ?_
        refine wpAnyG_take (i := 6) (v := .pointer (some ⟨br, 0, none⟩)) rfl (by kernel_rfl) (fun _ _ _ h => h) (.inl ⟨rfl, fun w' ⟨s1, s2, s3, s4⟩ => by go_simp⟩) hdr ?_
        refine wpAnyG_take (i := 7) (v := .slice (some ⟨g, 0, none⟩) (p + 1) cap) rfl (by kernel_rfl) (fun _ _ _ h => h) (.inl ⟨rfl, fun w' ⟨s1, s2, s3, s4⟩ => by go_simp⟩) hdr ?_
        refine wpAnyG_take (i := 8) (v := .int .i64 ((p : Int) + 1)) rfl (by kernel_rfl) (fun _ _ _ h => h) (.inl ⟨rfl, fun w' ⟨s1, s2, s3, s4⟩ => by go_simp⟩) hdr ?_
        refine wpAnyG_take (i := 9) (v := .int .i64 (p : Int)) rfl (by kernel_rfl) (fun _ _ _ h => h) (.inl ⟨rfl, fun w' ⟨s1, s2, s3, s4⟩ => by go_simp; exact wrap_nat hpb⟩) hdr ?_
        refine wpAnyG_take (i := 10) (v := .pointer (some ⟨g, p, none⟩)) rfl (by kernel_rfl) (fun _ _ _ h => h) (.inl ⟨rfl, fun w' ⟨s1, s2, s3, s4⟩ => by go_simp; intro h; omega⟩) hdr ?_
        refine wpAnyG_take (i := 11) (v := .int .u8 (zs.getD p 0)) rfl (by kernel_rfl) (fun _ _ _ h => h) (.inl ⟨rfl, fun w' ⟨s1, s2, s3, s4⟩ => by go_simp⟩) hdr ?_
        refine wpAnyG_take (i := 12) (v := .pointer (some ⟨br, 0, none⟩)) rfl (by kernel_rfl) (fun _ _ _ h => h) (.inl ⟨rfl, fun w' ⟨s1, s2, s3, s4⟩ => by go_simp⟩) hdr ?_
        refine wpAnyG_take (i := 13) (v := .pointer (some ⟨br, 0, none⟩)) rfl (by kernel_rfl) (fun _ _ _ h => h) (.inl ⟨rfl, fun w' ⟨s1, s2, s3, s4⟩ => by go_simp⟩) hdr ?_
        refine wpAnyG_take (i := 14) (v := .pointer (some ⟨br, 1, none⟩)) rfl (by kernel_rfl) (fun _ _ _ h => h) (.inl ⟨rfl, fun w' ⟨s1, s2, s3, s4⟩ => by go_simp⟩) hdr ?_
        refine wpAnyG_take (i := 15) (v := .int .i64 m) rfl (by kernel_rfl) (fun _ _ _ h => h) (.inl ⟨rfl, fun w' ⟨s1, s2, s3, s4⟩ => by go_simp⟩) hdr ?_
        refine wpAnyG_take (i := 16) (v := .int .i64 (m % 8)) rfl (by kernel_rfl) (fun _ _ _ h => h) (.inl ⟨rfl, fun w' ⟨s1, s2, s3, s4⟩ => by go_simp; exact Int.tmod_eq_emod_of_nonneg hm0⟩) hdr ?_
        refine wpAnyG_take (i := 17) (v := .int .u8 (128 / 2 ^ (m % 8).toNat)) rfl (by kernel_rfl) (fun _ _ _ h => h) (.inl ⟨rfl, fun w' ⟨s1, s2, s3, s4⟩ => by go_simp⟩) hdr ?_
        refine wpAnyG_take (i := 18) (v := .int .u8 (Go.bits .or .u8 (zs.getD p 0) (128 / 2 ^ (m % 8).toNat))) rfl (by kernel_rfl) (fun _ _ _ h => h) (.inl ⟨rfl, fun w' ⟨s1, s2, s3, s4⟩ => by go_simp⟩) hdr ?_
        refine wpAnyG_run (i := 19) (v := .pointer (some ⟨g, p, none⟩)) (w1 := W2.drew) rfl (by kernel_rfl) rfl (by go_simp; intro h; omega) (fun _ => hdr) ?_
        refine wpAnyG_runs (i := 20) (w1 := W2.drew.setCell ⟨g, p, none⟩ (.int .u8 (Go.bits .or .u8 (zs.getD p 0) (128 / 2 ^ (m % 8).toNat)))) rfl (by kernel_rfl) rfl (by go_simp; done) (fun h => Bool.noConfusion (show true = false from h)) ?_
        refine wpAnyG_done (by kernel_rfl) ?_ 0
        obtain ⟨q1, q2, q3, q4, q5, q6, q7⟩ := put_bit (x := Go.bits .or .u8 (zs.getD p 0) (128 / 2 ^ (m % 8).toNat)) hk1 hk2 H2.out Hz.out H3.out H1.out hbw2 hbel2
        have fin := put_fin hbr q1 q2 q3 q4 q5 q6 q7
        obtain ⟨W3, hW3⟩ : ∃ W3, W2.drew.setCell ⟨g, p, none⟩ (.int .u8 (Go.bits .or .u8 (zs.getD p 0) (128 / 2 ^ (m % 8).toNat))) = W3 := ⟨_, rfl⟩
        rw [hW3] at fin q3 q5 ⊢
        have hcb' := cell_of_one q5
        have hc0' := cell0 q3
        have hc1' := cell1 q3
        have hf0' := free2 q3
        have Fin := Lib.hid (fin2.out true _ _ (by rw [hstep.out]; rfl) fin)
        clear hdr hcb hc0 hc1 hf0 hcg hfg q1 q2 q3 q4 q5 q6 q7 hW3 fin hk1 hk2 hbw2 hbel2 fin2 hstep H1 H2 H3
        simp only [Act.put]
        gi_wp2
        exact Fin.out _
    · have hpos : 0 < ys.length := by omega
      obtain ⟨g, cap, hsv, hbg, _⟩ := Hown.out.form hpos
      subst hsv
      obtain ⟨p, hp⟩ : ∃ p, ys.length = p + 1 := ⟨ys.length - 1, by omega⟩
      obtain ⟨zs, hzs⟩ : ∃ zs, ys = zs := ⟨_, rfl⟩
      have hpb : p + 1 ≤ 140737488355328 := by rw [← hp]; omega
      have hzl : zs.length = p + 1 := by rw [← hzs]; exact hp
      have hstep := Lib.hid (show ∀ c, stepB (ys, m) c = (if c then zs.set p (Go.bits .or .u8 (zs.getD p 0) (128 / 2 ^ (m % 8).toNat)) else zs, m + 1) from fun c => by
        unfold stepB
        rw [if_neg h8, hzs]
        dsimp only
        rw [hzl]
        simp [rd])
      have F1 : W.heap[w.heap.size]? = some (.cells #[.pointer (some ⟨br, 0, none⟩)] 104 (0, 0)) := by exact Hbox.out
      have F2 : W.heap[br]? = some (.cells #[.slice (some ⟨g, 0, none⟩) (p + 1) cap, .int .i64 m] 96 (0, 0)) := by rw [← hp]; exact Hbr1.out
      have F3 : W.ownsRow base 5 1 (.slice (some ⟨g, 0, none⟩) (p + 1) cap) zs.length (nums .u8 zs) := by rw [← hzs, ← hp]; exact Hown.out
      have hk1 : KeepsOthers W W := by exact KeepsOthers.refl _
      have hk2 : KeepsTy [5, 96] W W := by exact KeepsTy.refl _ _
      have hbw2 : ∃ c fr, W.heap[w.heap.size + 2]? = some (.cells c 3 fr) := by exact ⟨cw, fw, Hbw.out⟩
      have hbel2 : Below base w0 W := by exact hbel
      have h8b : (m % 8 == 0) = false := by simpa using h8
      clear hcb hc0 hc1 hf0 hp hzs Hbox Hbr1 Hown Hbw hlen hyl hpos
      have hcb := cell_of_one F1
      have hc0 := cell0 F2
      have hc1 := cell1 F2
      have hf0 := free2 F2
      have hcell := own_at (p := p) F3 hzl
      have hcg := hcell.1
      have hfg := hcell.2
      have H1 := Lib.hid F1
      have H2 := Lib.hid F2
      have H3 := Lib.hid F3
      have Hz := Lib.hid hzl
      have H8 := Lib.hid h8
      clear F1 F2 F3 hcell hzl h8
      cases b
      · gi_wp2
        have fin := put_fin hbr hk1 hk2 H2.out H3.out H1.out hbw2 hbel2
        exact fin2.out false _ zs (by rw [hstep.out]; rfl) fin _
      · gi_wp2
        refine wpIn_region_of_any hmix (by kernel_rfl) (by rintro ⟨_, _, h⟩; exact h) (wpAny_of_G (S := fun w' => w'.cell? ⟨w.heap.size, 0, none⟩ = some (.pointer (some ⟨br, 0, none⟩)) ∧ w'.cell? ⟨br, 0, none⟩ = some (.slice (some ⟨g, 0, none⟩) (p + 1) cap) ∧ w'.cell? ⟨br, 1, none⟩ = some (.int .i64 m) ∧ w'.cell? ⟨g, p, none⟩ = some (.int .u8 (zs.getD p 0))) (g := 20) _ _ _ _ ?_)
        change wpAnyG _ _ _ _ _ _ 21 #[false, false, false, false, false, false, false, false, false, false, false, false, false, false, false, false, false, false, false, false, false] _ _
        have hdr : W.drew.cell? ⟨w.heap.size, 0, none⟩ = some (.pointer (some ⟨br, 0, none⟩)) ∧ W.drew.cell? ⟨br, 0, none⟩ = some (.slice (some ⟨g, 0, none⟩) (p + 1) cap) ∧ W.drew.cell? ⟨br, 1, none⟩ = some (.int .i64 m) ∧ W.drew.cell? ⟨g, p, none⟩ = some (.int .u8 (zs.getD p 0)) := ⟨hcb, hc0, hc1, hcg⟩
        refine wpAnyG_take (i := 0) (v := .pointer (some ⟨br, 0, none⟩)) rfl (by kernel_rfl) (fun _ _ _ h => h) (.inl ⟨rfl, fun w' ⟨s1, s2, s3, s4⟩ => by go_simp⟩) hdr ?_
        refine wpAnyG_take (i := 1) (v := .pointer (some ⟨br, 0, none⟩)) rfl (by kernel_rfl) (fun _ _ _ h => h) (.inl ⟨rfl, fun w' ⟨s1, s2, s3, s4⟩ => by go_simp⟩) hdr ?_
        refine wpAnyG_take (i := 2) (v := .pointer (some ⟨br, 0, none⟩)) rfl (by kernel_rfl) (fun _ _ _ h => h) (.inl ⟨rfl, fun w' ⟨s1, s2, s3, s4⟩ => by go_simp⟩) hdr ?_
        refine wpAnyG_take (i := 3) (v := .slice (some ⟨g, 0, none⟩) (p + 1) cap) rfl (by kernel_rfl) (fun _ _ _ h => h) (.inl ⟨rfl, fun w' ⟨s1, s2, s3, s4⟩ => by go_simp⟩) hdr ?_
        refine wpAnyG_take (i := 4) (v := .pointer (some ⟨br, 0, none⟩)) rfl (by kernel_rfl) (fun _ _ _ h => h) (.inl ⟨rfl, fun w' ⟨s1, s2, s3, s4⟩ => by go_simp⟩) hdr ?_
        refine wpAnyG_take (i := 5) (v := .pointer (some ⟨br, 0, none⟩)) rfl (by kernel_rfl) (fun _ _ _ h => h) (.inl ⟨rfl, fun w' ⟨s1, s2, s3, s4⟩ => by go_simp⟩) hdr ?_
        refine wpAnyG_take (i := 6) (v := .pointer (some ⟨br, 0, none⟩)) rfl (by kernel_rfl) (fun _ _ _ h => h) (.inl ⟨rfl, fun w' ⟨s1, s2, s3, s4⟩ => by go_simp⟩) hdr ?_
        refine wpAnyG_take (i := 7) (v := .slice (some ⟨g, 0, none⟩) (p + 1) cap) rfl (by kernel_rfl) (fun _ _ _ h => h) (.inl ⟨rfl, fun w' ⟨s1, s2, s3, s4⟩ => by go_simp⟩) hdr ?_
        refine wpAnyG_take (i := 8) (v := .int .i64 ((p : Int) + 1)) rfl (by kernel_rfl) (fun _ _ _ h => h) (.inl ⟨rfl, fun w' ⟨s1, s2, s3, s4⟩ => by go_simp⟩) hdr ?_
        refine wpAnyG_take (i := 9) (v := .int .i64 (p : Int)) rfl (by kernel_rfl) (fun _ _ _ h => h) (.inl ⟨rfl, fun w' ⟨s1, s2, s3, s4⟩ => by go_simp; exact wrap_nat hpb⟩) hdr ?_
        refine wpAnyG_take (i := 10) (v := .pointer (some ⟨g, p, none⟩)) rfl (by kernel_rfl) (fun _ _ _ h => h) (.inl ⟨rfl, fun w' ⟨s1, s2, s3, s4⟩ => by go_simp; intro h; omega⟩) hdr ?_
        refine wpAnyG_take (i := 11) (v := .int .u8 (zs.getD p 0)) rfl (by kernel_rfl) (fun _ _ _ h => h) (.inl ⟨rfl, fun w' ⟨s1, s2, s3, s4⟩ => by go_simp⟩) hdr ?_
        refine wpAnyG_take (i := 12) (v := .pointer (some ⟨br, 0, none⟩)) rfl (by kernel_rfl) (fun _ _ _ h => h) (.inl ⟨rfl, fun w' ⟨s1, s2, s3, s4⟩ => by go_simp⟩) hdr ?_
        refine wpAnyG_take (i := 13) (v := .pointer (some ⟨br, 0, none⟩)) rfl (by kernel_rfl) (fun _ _ _ h => h) (.inl ⟨rfl, fun w' ⟨s1, s2, s3, s4⟩ => by go_simp⟩) hdr ?_
        refine wpAnyG_take (i := 14) (v := .pointer (some ⟨br, 1, none⟩)) rfl (by kernel_rfl) (fun _ _ _ h => h) (.inl ⟨rfl, fun w' ⟨s1, s2, s3, s4⟩ => by go_simp⟩) hdr ?_
        refine wpAnyG_take (i := 15) (v := .int .i64 m) rfl (by kernel_rfl) (fun _ _ _ h => h) (.inl ⟨rfl, fun w' ⟨s1, s2, s3, s4⟩ => by go_simp⟩) hdr ?_
        refine wpAnyG_take (i := 16) (v := .int .i64 (m % 8)) rfl (by kernel_rfl) (fun _ _ _ h => h) (.inl ⟨rfl, fun w' ⟨s1, s2, s3, s4⟩ => by go_simp; exact Int.tmod_eq_emod_of_nonneg hm0⟩) hdr ?_
        refine wpAnyG_take (i := 17) (v := .int .u8 (128 / 2 ^ (m % 8).toNat)) rfl (by kernel_rfl) (fun _ _ _ h => h) (.inl ⟨rfl, fun w' ⟨s1, s2, s3, s4⟩ => by go_simp⟩) hdr ?_
        refine wpAnyG_take (i := 18) (v := .int .u8 (Go.bits .or .u8 (zs.getD p 0) (128 / 2 ^ (m % 8).toNat))) rfl (by kernel_rfl) (fun _ _ _ h => h) (.inl ⟨rfl, fun w' ⟨s1, s2, s3, s4⟩ => by go_simp⟩) hdr ?_
        refine wpAnyG_run (i := 19) (v := .pointer (some ⟨g, p, none⟩)) (w1 := W.drew) rfl (by kernel_rfl) rfl (by go_simp; intro h; omega) (fun _ => hdr) ?_
        refine wpAnyG_runs (i := 20) (w1 := W.drew.setCell ⟨g, p, none⟩ (.int .u8 (Go.bits .or .u8 (zs.getD p 0) (128 / 2 ^ (m % 8).toNat)))) rfl (by kernel_rfl) rfl (by go_simp; done) (fun h => Bool.noConfusion (show true = false from h)) ?_
        refine wpAnyG_done (by kernel_rfl) ?_ 0
        obtain ⟨q1, q2, q3, q4, q5, q6, q7⟩ := put_bit (x := Go.bits .or .u8 (zs.getD p 0) (128 / 2 ^ (m % 8).toNat)) hk1 hk2 H2.out Hz.out H3.out H1.out hbw2 hbel2
        have fin := put_fin hbr q1 q2 q3 q4 q5 q6 q7
        obtain ⟨W3, hW3⟩ : ∃ W3, W.drew.setCell ⟨g, p, none⟩ (.int .u8 (Go.bits .or .u8 (zs.getD p 0) (128 / 2 ^ (m % 8).toNat))) = W3 := ⟨_, rfl⟩
        rw [hW3] at fin q3 q5 ⊢
        have hcb' := cell_of_one q5
        have hc0' := cell0 q3
        have hc1' := cell1 q3
        have hf0' := free2 q3
        have Fin := Lib.hid (fin2.out true _ _ (by rw [hstep.out]; rfl) fin)
        clear hdr hcb hc0 hc1 hf0 hcg hfg q1 q2 q3 q4 q5 q6 q7 hW3 fin hk1 hk2 hbw2 hbel2 fin2 hstep H1 H2 H3
        simp only [Act.put]
        gi_wp2
        exact Fin.out _

end Go.Proofs.Ytlhaofbncoijfaa.Hand
namespace Go.Proofs.Ytlhaofbncoijfaa.Hand
set_option linter.unusedVariables false
set_option linter.unusedSimpArgs false
open Go.RowKit Go.Proofs.Ytlhaofbncoijfaa.Blocks
open Go.Proofs.YtlhaofbncoijfaaW.PrintWords Go.Proofs.YtlhaofbncoijfaaW.PrintLast Go.Proofs.YtlhaofbncoijfaaW.PrintMore

theorem own_empty (W : World) (base : Nat) (h : base ≤ W.heap.size) : (W.alloc (.cells #[] 5)).ownsRow base 5 1 (.slice (some ⟨W.heap.size, 0, none⟩) 0 0) ([] : List Int).length (encs (Value.int .u8) []) :=
  ⟨by simp [encs], .inr ⟨W.heap.size, 0, #[], rfl, h, alloc_new W _, Nat.le_refl _, by simp [maxLen], rfl, by simp [encs]⟩⟩

set_option maxHeartbeats 1000000 in
theorem clone_calls (A : Option Addr) (c : Nat) (l : List Int) (w : World) (hr : Kd.C (Kd.int .u8) w A l.length l) (hl : l.length ≤ 140737488355328) :
    Calls Try.prog 53 #[.slice A l.length c] w fun e w' => ∃ v, e = .returned v ∧ w'.ownsRow w.heap.size 5 1 v l.length (nums .u8 l) ∧ Below w.heap.size w w' := by
  cases A with
  | none =>
    have h0 : l = [] := by
      cases l with
      | nil => rfl
      | cons x l => obtain ⟨ad, e, _⟩ := hr.2.2 (by simp); cases e
    subst h0
    clear hr hl
    have he : ∀ W : World, (binOp .eql 43 (.slice none 0 c) (.slice none 0 0)).run Try.prog W = .ok (.bool true) W := fun W => Lib.run_eql_slice_nil (P := Try.prog) W 43 5 none 0 c 0 0 Try.underlying43
    simp only [List.length_nil]
    go_enter Try.func53, Try.ntmps53
    go_wp2
    go_ret
    exact ⟨_, rfl, own_nil _ _ _ _, Below.refl _ _⟩
  | some ad =>
    have he : ∀ W : World, (binOp .eql 43 (.slice (some ad) l.length c) (.slice none 0 0)).run Try.prog W = .ok (.bool false) W := fun W => Lib.run_eql_slice_nil (P := Try.prog) W 43 5 (some ad) l.length c 0 0 Try.underlying43
    have hr2 := Lib.hid hr
    clear hr
    go_enter Try.func53, Try.ntmps53
    go_wp2_with (at_builtin; refine print_append_row_of (w0 := w) (Value.int .u8) 0 w.heap.size rfl _ _ 43 5 (.int .u8 0) 1 rfl Try.underlying43 info5 rfl (by decide) (fun _ => rfl) _ [] l (some ad) l.length c rfl rfl (own_empty w _ (Nat.le_refl _)) (Kd.reads_of_C (d := 0) (h1 := fun _ => rfl) (Kd.C_alloc hr2.out _)) ((Below.refl _ _).alloc (Nat.le_refl _) _) (by simp) (by simpa using hl) ?_; intro v1 w1 hown hb _ _)
    go_ret
    exact ⟨_, rfl, hown, hb⟩
end Go.Proofs.Ytlhaofbncoijfaa.Hand
namespace Go.Proofs.Ytlhaofbncoijfaa.X
open Go.RowKit Go.Proofs.YtlhaofbncoijfaaW.PrintWords Go.Proofs.YtlhaofbncoijfaaW.PrintLast Go.Proofs.YtlhaofbncoijfaaW.PrintMore Go.Proofs.Ytlhaofbncoijfaa.HandF
attribute [local go_sem] max2_int min2_int max_two min_two max_three min_three max_four min_four   -- for this text's walks alone
set_option linter.unusedVariables false
set_option linter.unusedSimpArgs false

/-! ### bits_Right: function 52 -/
def bits_Right.f (l0 : List Int) (a1 : Int) : Option (Bool) := if a1 < 0 then (some false) else (if a1 > (wrap64 (8 * (l0.length : Int))) then (some false) else (if (wrap64 (Int.tdiv (wrap64 (a1 + 7)) 8)) = (l0.length : Int) then (if (Int.tmod a1 8) = 0 then (some true) else (if 0 ≤ (wrap64 ((l0.length : Int) - 1)) then (if (wrap64 ((l0.length : Int) - 1)) < (l0.length : Int) then (if 0 ≤ (Int.tmod a1 8) then (some ((shl .u8 (rd l0 (wrap64 ((l0.length : Int) - 1))) (Int.tmod a1 8)) == 0)) else (none)) else (none)) else (none))) else (some false)))
set_option maxHeartbeats 8000000 in
set_option maxRecDepth 100000 in
theorem bits_Right.calls (A0 : Option Addr) (c0 : Nat) (l0 : List Int) (a1 : Int) (r : Bool) (w : World) (hr0 : Kd.C (Kd.int .u8) w A0 l0.length l0) (hc0 : l0.length ≤ c0) (h : bits_Right.f l0 a1 = some r) :
    Calls Try.prog 52 #[.slice A0 l0.length c0, .int .i64 a1] w fun e w' => e = .returned (.bool r) ∧ Drawn0 w w' := by
  have HR0 := Aside0.mk hr0
  have HC0 := Aside0.mk hc0
  clear hr0 hc0
  have H : (if a1 < 0 then (some false) else (if a1 > (wrap64 (8 * (l0.length : Int))) then (some false) else (if (wrap64 (Int.tdiv (wrap64 (a1 + 7)) 8)) = (l0.length : Int) then (if (Int.tmod a1 8) = 0 then (some true) else (if 0 ≤ (wrap64 ((l0.length : Int) - 1)) then (if (wrap64 ((l0.length : Int) - 1)) < (l0.length : Int) then (if 0 ≤ (Int.tmod a1 8) then (some ((shl .u8 (rd l0 (wrap64 ((l0.length : Int) - 1))) (Int.tmod a1 8)) == 0)) else (none)) else (none)) else (none))) else (some false)))) = some r := h
  clear h
  by_cases c3 : a1 < 0
  · rw [if_pos c3] at H
    have c3b0 : decide (a1 < 0) = true := decide_eq_true c3
    clear c3
    obtain rfl := Option.some.inj H
    go_enter Try.func52, Try.ntmps52
    go_wp2
    go_ret
    exact ⟨by first | rfl | (simp; done) | (simp [*]; done), by repeat (first | exact Drawn0.refl _ | apply Drawn0.step)⟩
  · rw [if_neg c3] at H
    have c3b0 : decide (a1 < 0) = false := decide_eq_false c3
    clear c3
    by_cases c4 : a1 > (wrap64 (8 * (l0.length : Int)))
    · rw [if_pos c4] at H
      have c4b0 : decide ((wrap64 (8 * (l0.length : Int))) < a1) = true := decide_eq_true c4
      clear c4
      obtain rfl := Option.some.inj H
      go_enter Try.func52, Try.ntmps52
      go_wp2
      go_ret
      exact ⟨by first | rfl | (simp; done) | (simp [*]; done), by repeat (first | exact Drawn0.refl _ | apply Drawn0.step)⟩
    · rw [if_neg c4] at H
      have c4b0 : decide ((wrap64 (8 * (l0.length : Int))) < a1) = false := decide_eq_false c4
      clear c4
      by_cases c5 : (wrap64 (Int.tdiv (wrap64 (a1 + 7)) 8)) = (l0.length : Int)
      · rw [if_pos c5] at H
        have c5b0 : ((wrap64 (Int.tdiv (wrap64 (a1 + 7)) 8)) == (l0.length : Int)) = true := beq_iff_eq.mpr c5
        have c5b1 : ((wrap64 (Int.tdiv (wrap64 (a1 + 7)) 8)) != (l0.length : Int)) = false := bne_eq_false_iff_eq.mpr c5
        clear c5
        by_cases c6 : (Int.tmod a1 8) = 0
        · rw [if_pos c6] at H
          have c6b0 : ((Int.tmod a1 8) == 0) = true := beq_iff_eq.mpr c6
          have c6b1 : ((Int.tmod a1 8) != 0) = false := bne_eq_false_iff_eq.mpr c6
          clear c6
          obtain rfl := Option.some.inj H
          go_enter Try.func52, Try.ntmps52
          go_wp2
          go_ret
          exact ⟨by first | rfl | (simp; done) | (simp [*]; done), by repeat (first | exact Drawn0.refl _ | apply Drawn0.step)⟩
        · rw [if_neg c6] at H
          have c6b0 : ((Int.tmod a1 8) == 0) = false := beq_eq_false_iff_ne.mpr c6
          have c6b1 : ((Int.tmod a1 8) != 0) = true := bne_iff_ne.mpr c6
          obtain ⟨ji7, hji7⟩ : ∃ j_ : Int, (wrap64 ((l0.length : Int) - 1)) = j_ := ⟨_, rfl⟩
          replace H : (if 0 ≤ (ji7) then (if (ji7) < (l0.length : Int) then (if 0 ≤ (Int.tmod a1 8) then (some ((shl .u8 (rd l0 (ji7)) (Int.tmod a1 8)) == 0)) else (none)) else (none)) else (none)) = some r := by first | (rw [hji7] at H; exact H) | (simp only [hji7] at H ⊢; exact H)
          have hji7w : (IntKind.i64.wrap ((l0.length : Int) - 1)) = ji7 := (i64_w _).trans hji7
          by_cases c8 : 0 ≤ (ji7)
          · rw [if_pos c8] at H
            have c8b0 : decide (0 ≤ (ji7)) = true := decide_eq_true c8
            clear c8
            by_cases c9 : (ji7) < (l0.length : Int)
            · rw [if_pos c9] at H
              have c9b0 : decide ((ji7) < (l0.length : Int)) = true := decide_eq_true c9
              clear c9
              obtain ⟨ji10, hji10⟩ : ∃ j_ : Int, (Int.tmod a1 8) = j_ := ⟨_, rfl⟩
              replace H : (if 0 ≤ (ji10) then (some ((shl .u8 (rd l0 (ji7)) (ji10)) == 0)) else (none)) = some r := by first | (rw [hji10] at H; exact H) | (simp only [hji10] at H ⊢; exact H)
              (try rw [hji10] at c6b0)
              (try rw [hji10] at c6b1)
              by_cases c11 : 0 ≤ (ji10)
              · rw [if_pos c11] at H
                have c11b0 := eq_true c11
                have c11b1 : decide (0 ≤ (ji10)) = true := decide_eq_true c11
                clear c11
                obtain ⟨ji12, hji12⟩ : ∃ j_ : Int, (shl .u8 (rd l0 (ji7)) (ji10)) = j_ := ⟨_, rfl⟩
                replace H : (some ((ji12) == 0)) = some r := by first | (rw [hji12] at H; exact H) | (simp only [hji12] at H ⊢; exact H)
                have hji12_ : (IntKind.u8.wrap ((rd l0 (ji7)) * 2 ^ min (ji10).toNat 8)) = ji12 := hji12
                have hji12z : (ji10) ≤ 8 → (IntKind.u8.wrap ((rd l0 (ji7)) * 2 ^ (ji10).toNat)) = ji12 := shl_small hji12
                obtain rfl := Option.some.inj H
                have p336 : 0 ≤ ((ji7) : Int) := of_decide_eq_true (by first | (with_reducible assumption) | assumption)
                have q336 : (ji7) < (l0.length : Int) := of_decide_eq_true (by first | (with_reducible assumption) | assumption)
                obtain ⟨ad336, e336, hx336_0⟩ := Kd.at_int HR0.out (ji7) p336 q336
                cases e336
                replace p336 := eq_true p336
                replace q336 := eq_true q336
                go_enter Try.func52, Try.ntmps52
                go_wp2
                go_ret
                exact ⟨by first | rfl | (simp; done) | (simp only [← hji7, ← hji10, ← hji12] <;> (first | rfl | simp)) | (simp [*]; done), by repeat (first | exact Drawn0.refl _ | apply Drawn0.step)⟩
              · rw [if_neg c11] at H
                exact absurd H (by simp)
            · rw [if_neg c9] at H
              exact absurd H (by simp)
          · rw [if_neg c8] at H
            exact absurd H (by simp)
      · rw [if_neg c5] at H
        have c5b0 : ((wrap64 (Int.tdiv (wrap64 (a1 + 7)) 8)) == (l0.length : Int)) = false := beq_eq_false_iff_ne.mpr c5
        have c5b1 : ((wrap64 (Int.tdiv (wrap64 (a1 + 7)) 8)) != (l0.length : Int)) = true := bne_iff_ne.mpr c5
        obtain rfl := Option.some.inj H
        go_enter Try.func52, Try.ntmps52
        go_wp2
        go_ret
        exact ⟨by first | rfl | (simp; done) | (simp [*]; done), by repeat (first | exact Drawn0.refl _ | apply Drawn0.step)⟩

end Go.Proofs.Ytlhaofbncoijfaa.X
namespace Go.Proofs.Ytlhaofbncoijfaa.HandF
set_option linter.unusedVariables false
set_option linter.unusedSimpArgs false
open Go.RowKit Go.Proofs.Ytlhaofbncoijfaa.Blocks Go.Proofs.Ytlhaofbncoijfaa.Hand Go.Proofs.Ytlhaofbncoijfaa.X
open Go.Proofs.YtlhaofbncoijfaaW.PrintWords Go.Proofs.YtlhaofbncoijfaaW.PrintLast Go.Proofs.YtlhaofbncoijfaaW.PrintMore

def bits_Len64.f (a0 : Int) : Option Int := if 0 ≤ a0 ∧ a0 ≤ 18446744073709551615 then some (Lib.bitLen a0.toNat : Int) else none
theorem bits_Len64.calls (a0 : Int) (r : Int) (w : World) (h : bits_Len64.f a0 = some r) :
    Calls Try.prog 71 #[.int .u64 a0] w fun e w' => e = .returned (.int .i64 r) ∧ Drawn0 w w' := by
  unfold bits_Len64.f at h
  by_cases hb : 0 ≤ a0 ∧ a0 ≤ 18446744073709551615
  · rw [if_pos hb] at h
    obtain rfl := Option.some.inj h
    exact (Try.bits_Len64 a0 w hb.1 hb.2).mono fun e w' ⟨he, hw⟩ => ⟨he, by rw [hw]; exact Drawn0.refl _⟩
  · rw [if_neg hb] at h
    cases h

def bits_Put.f (l0 : List Int) (a1 a2 a3 : Int) : Option (List Int × Int × Int) :=
  (bits_Right.f l0 a1).bind fun r => if r = true then
    (if a3 < 0 then some ([], 0, 2) else if a3 > 64 then some ([], 0, 2) else
      (bits_Len64.f a2).bind fun k => if k > a3 then some ([], 0, 2) else
        if 0 ≤ a1 ∧ (a1 + 7) / 8 = l0.length ∧ l0.length + 9 ≤ 140737488355328 then some (((highs a2 a3.toNat).foldl stepB (l0, a1)).1, ((highs a2 a3.toNat).foldl stepB (l0, a1)).2, 0) else none)
    else some ([], 0, 2)

theorem row_put (base br : Nat) (w0 w : World) (xs : List Int) (nn v wd : Int) (h0 : 0 ≤ wd) (hwd : wd ≤ 64) (hnn : 0 ≤ nn) (hr : (nn + 7) / 8 = xs.length) (hl : xs.length + 9 ≤ 140737488355328)
    (hrow : RowIs base br (xs, nn) w) (hB : Below base w0 w) (hbr : base ≤ br) (hbase : base ≤ w.heap.size) :
    Calls Try.prog 72 #[.pointer (some ⟨br, 0, none⟩), .int .u64 v, .int .i64 wd] w fun e w' =>
      (∃ r, e = .returned r) ∧ RowIs base br ((highs v wd.toNat).foldl stepB (xs, nn)) w' ∧ Below base w0 w' := by
  obtain ⟨n, rfl⟩ := Int.eq_ofNat_of_zero_le h0
  rw [Int.toNat_natCast]
  exact callsIn_wide.1 (row_put_calls base br w0 w xs nn v n (by omega) hnn hr hl hrow hB hbr hbase)

set_option maxRecDepth 100000 in
set_option maxHeartbeats 2000000 in
theorem bits_Put.calls (A0 : Option Addr) (c0 : Nat) (l0 : List Int) (a1 a2 a3 : Int) (r1 : List Int) (r2 r3 : Int) (w : World) (hr0 : Kd.C (Kd.int .u8) w A0 l0.length l0) (hc0 : l0.length ≤ c0) (h : bits_Put.f l0 a1 a2 a3 = some (r1, r2, r3)) :
    Calls Try.prog 54 #[.slice A0 l0.length c0, .int .i64 a1, .int .u64 a2, .int .i64 a3] w fun e w' => ∃ v0_ : Value, e = .returned (.tuple #[v0_, .int .i64 r2, .int .i64 r3]) ∧ Kd.R (Kd.int .u8) 5 w' w.heap.size (fun _ => True) v0_ r1 ∧ Below w.heap.size w w' := by
  unfold bits_Put.f at h
  obtain ⟨t, ht, h⟩ := Option.bind_eq_some_iff.1 h
  have HR0 := Aside0.mk hr0
  have HT := Aside0.mk ht
  clear hr0 ht
  cases t with
  | false =>
    rw [if_neg (by decide)] at h
    simp only [Option.some.injEq, Prod.mk.injEq] at h
    obtain ⟨rfl, rfl, rfl⟩ := h
    go_enter Try.func54, Try.ntmps54
    go_wp2_with (go_at_call 52; (with_reducible refine (bits_Right.calls _ _ l0 a1 false _ HR0.out hc0 HT.out).mono ?_); rintro e w' ⟨rfl, ⟨nd, rfl⟩⟩)
    go_ret3
    exact ⟨_, rfl, Kd.R_nil _ _ _ _ _, pw_below_drewN (Below.refl _ _) _⟩
  | true =>
    rw [if_pos rfl] at h
    by_cases c1 : a3 < 0
    · rw [if_pos c1] at h
      simp only [Option.some.injEq, Prod.mk.injEq] at h
      obtain ⟨rfl, rfl, rfl⟩ := h
      have d1 : decide (a3 < 0) = true := decide_eq_true c1
      clear c1
      go_enter Try.func54, Try.ntmps54
      go_wp2_with (go_at_call 52; (with_reducible refine (bits_Right.calls _ _ l0 a1 true _ HR0.out hc0 HT.out).mono ?_); rintro e w' ⟨rfl, ⟨nd, rfl⟩⟩)
      go_ret3
      exact ⟨_, rfl, Kd.R_nil _ _ _ _ _, pw_below_drewN (Below.refl _ _) _⟩
    · rw [if_neg c1] at h
      have d1 : decide (a3 < 0) = false := decide_eq_false c1
      by_cases c2 : a3 > 64
      · rw [if_pos c2] at h
        simp only [Option.some.injEq, Prod.mk.injEq] at h
        obtain ⟨rfl, rfl, rfl⟩ := h
        have d2 : decide (64 < a3) = true := decide_eq_true c2
        clear c1 c2
        go_enter Try.func54, Try.ntmps54
        go_wp2_with (go_at_call 52; (with_reducible refine (bits_Right.calls _ _ l0 a1 true _ HR0.out hc0 HT.out).mono ?_); rintro e w' ⟨rfl, ⟨nd, rfl⟩⟩)
        go_ret3
        exact ⟨_, rfl, Kd.R_nil _ _ _ _ _, pw_below_drewN (Below.refl _ _) _⟩
      · rw [if_neg c2] at h
        have d2 : decide (64 < a3) = false := decide_eq_false c2
        obtain ⟨k, hk, h⟩ := Option.bind_eq_some_iff.1 h
        have HK := Aside0.mk hk
        clear hk
        by_cases c3 : k > a3
        · rw [if_pos c3] at h
          simp only [Option.some.injEq, Prod.mk.injEq] at h
          obtain ⟨rfl, rfl, rfl⟩ := h
          have d3 : decide (a3 < k) = true := decide_eq_true c3
          clear c1 c2 c3
          go_enter Try.func54, Try.ntmps54
          go_wp2_with (first | (go_at_call 52; (with_reducible refine (bits_Right.calls _ _ l0 a1 true _ HR0.out hc0 HT.out).mono ?_); rintro e w' ⟨rfl, ⟨nd, rfl⟩⟩) | (go_at_call 71; (with_reducible refine (bits_Len64.calls a2 k _ HK.out).mono ?_); rintro e w' ⟨rfl, ⟨ne, rfl⟩⟩))
          go_ret3
          exact ⟨_, rfl, Kd.R_nil _ _ _ _ _, pw_below_drewN (Below.refl _ _) _⟩
        · rw [if_neg c3] at h
          have d3 : decide (a3 < k) = false := decide_eq_false c3
          by_cases c4 : 0 ≤ a1 ∧ (a1 + 7) / 8 = l0.length ∧ l0.length + 9 ≤ 140737488355328
          · rw [if_pos c4] at h
            simp only [Option.some.injEq, Prod.mk.injEq] at h
            obtain ⟨e1, e2, rfl⟩ := h
            obtain ⟨g1, g2, g3⟩ := c4
            have G2 := Aside0.mk g2
            have E1 := Aside0.mk e1
            have E2 := Aside0.mk e2
            have g4 : 0 ≤ a3 := by omega
            have g5 : a3 ≤ 64 := by omega
            clear c1 c2 c3 g2 e1 e2
            go_enter Try.func54, Try.ntmps54
            go_wp2_with (first | (go_at_call 52; (with_reducible refine (bits_Right.calls _ _ l0 a1 true _ HR0.out hc0 HT.out).mono ?_); rintro e w' ⟨rfl, ⟨nd, rfl⟩⟩) | (go_at_call 71; (with_reducible refine (bits_Len64.calls a2 k _ HK.out).mono ?_); rintro e w' ⟨rfl, ⟨ne, rfl⟩⟩))
            refine (clone_calls _ _ l0 _ (Kd.C_drewN HR0.out _) (by omega)).mono ?_
            rintro e wc ⟨vc, rfl, hown, hbc⟩
            obtain ⟨Ac, cc, rfl⟩ := own_slice hown
            have HC := Aside0.mk hown
            have HB := Aside0.mk hbc
            clear hown hbc
            go_wp2_with fail
            have hbw : Below w.heap.size w wc := (pw_below_drewN (Below.refl w.heap.size w) _).trans HB.out
            have hsz : w.heap.size ≤ wc.heap.size := hbw.size
            refine (row_put w.heap.size wc.heap.size w _ l0 a1 a2 a3 g4 g5 g1 G2.out g3 ⟨_, alloc_new wc _, HC.out.alloc _⟩ (hbw.alloc hsz _) hsz (by simp; omega)).mono ?_
            rintro e w3 ⟨⟨rv, rfl⟩, ⟨sv, hb1, ho1⟩, hb3⟩
            have Ho1 := Aside0.mk ho1
            have Hb3 := Aside0.mk hb3
            rw [E1.out, E2.out] at *
            have hc0 := cell0 hb1
            have hc1 := cell1 hb1
            clear hb1 ho1 hb3 hbw hsz
            go_wp2_with fail
            go_quiet (fail)
            go_wp2
            go_ret3
            exact ⟨_, rfl, Kd.R_of_own (pw_own_below Ho1.out (pw_below_drewN (Below.refl _ _) _)) (fun _ _ => trivial), pw_below_drewN Hb3.out _⟩
          · rw [if_neg c4] at h
            cases h
end Go.Proofs.Ytlhaofbncoijfaa.HandF
namespace Go.Proofs.Ytlhaofbncoijfaa.X
open Go.RowKit Go.Proofs.YtlhaofbncoijfaaW.PrintWords Go.Proofs.YtlhaofbncoijfaaW.PrintLast Go.Proofs.YtlhaofbncoijfaaW.PrintMore Go.Proofs.Ytlhaofbncoijfaa.HandF
attribute [local go_sem] max2_int min2_int max_two min_two max_three min_three max_four min_four   -- for this text's walks alone
set_option linter.unusedVariables false
set_option linter.unusedSimpArgs false

/-! ### bits_take: function 82 -/
def bits_take.l0 : Nat → List Int → Int → Int → Int → Int → Option (Int)
  | 0, _, _, _, _, _ => none
  | k + 1, x0, x1, x2, x7, x8 => if x8 < (wrap64 (x1 + x2)) then (if 0 ≤ (wrap64 (Int.tdiv x8 8)) then (if (wrap64 (Int.tdiv x8 8)) < (x0.length : Int) then (if 0 ≤ (wrap64 (7 - (Int.tmod x8 8))) then (bits_take.l0 k x0 x1 x2 (Go.bits .or .u64 (IntKind.u64.wrap (x7 * 2)) (IntKind.u64.wrap (Go.bits .and .u8 (shr .u8 (rd x0 (wrap64 (Int.tdiv x8 8))) (wrap64 (7 - (Int.tmod x8 8)))) 1))) (wrap64 (x8 + 1))) else (none)) else (none)) else (none)) else (some x7)
def bits_take.f (k : Nat) (l0 : List Int) (a1 : Int) (a2 : Int) : Option (Int) := bits_take.l0 k l0 a1 a2 0 a1
theorem bits_take.mono_l : ∀ k, (∀ y0 y1 y2 y3 y4, LeO (bits_take.l0 k y0 y1 y2 y3 y4) (bits_take.l0 (k + 1) y0 y1 y2 y3 y4))
  | 0 => fun _ _ _ _ _ r h => by simp [bits_take.l0] at h
  | k + 1 => by
    have ih0 := bits_take.mono_l k
    · intro y0 y1 y2 y3 y4
      unfold bits_take.l0
      repeat' first
      | (with_reducible exact ih0 _ _ _ _ _)
      | (with_reducible exact LeO.refl _)
      | (with_reducible exact LeO.none _)
      | (with_reducible refine LeO.ite ?_ ?_)
      | (with_reducible refine LeO.bind ?_ (fun _ => ?_))
      | exact ih0 _ _ _ _ _
      | exact LeO.none _
      | refine LeO.ite ?_ ?_
      | refine LeO.bind ?_ (fun _ => ?_)
theorem bits_take.mono : ∀ a0 a1 a2 k, LeO (bits_take.f k a0 a1 a2) (bits_take.f (k + 1) a0 a1 a2) := by
  intro a0 a1 a2 k
  have ih0 := bits_take.mono_l k
  unfold bits_take.f
  repeat' first
      | (with_reducible exact ih0 _ _ _ _ _)
      | (with_reducible exact LeO.refl _)
      | (with_reducible exact LeO.none _)
      | (with_reducible refine LeO.ite ?_ ?_)
      | (with_reducible refine LeO.bind ?_ (fun _ => ?_))
      | exact ih0 _ _ _ _ _
      | exact LeO.none _
      | refine LeO.ite ?_ ?_
      | refine LeO.bind ?_ (fun _ => ?_)
set_option maxHeartbeats 8000000 in
set_option maxRecDepth 100000 in
theorem bits_take.calls (k : Nat) (A0 : Option Addr) (c0 : Nat) (l0 : List Int) (a1 : Int) (a2 : Int) (r : Int) (w : World) (hr0 : Kd.C (Kd.int .u8) w A0 l0.length l0) (hc0 : l0.length ≤ c0) (h : bits_take.f k l0 a1 a2 = some r) :
    Calls Try.prog 82 #[.slice A0 l0.length c0, .int .i64 a1, .int .i64 a2] w fun e w' => e = .returned (.int .u64 r) ∧ Drawn0 w w' := by
  have HR0 := Aside0.mk hr0
  have HC0 := Aside0.mk hc0
  clear hr0 hc0
  have H : (bits_take.l0 k l0 a1 a2 0 a1) = some r := h
  clear h
  have H' := Aside0.mk H
  clear H
  go_enter Try.func82, Try.ntmps82
  go_wp2
  go_loopg [7, 8] k (fun kq v7 v8 w' => ∃ (x7_1 : Int) (x8_1 : Int), v7 = .int .u64 x7_1 ∧ v8 = .int .i64 x8_1 ∧ Aside0 (bits_take.l0 kq l0 a1 a2 x7_1 x8_1 = some r) ∧ Aside0 (kq ≤ k) ∧ Drawn0 w w')
  case atStart => exact ⟨(0), (a1), (by first | rfl | (simp; done) | (simp [*]; done)), (by first | rfl | (simp; done) | (simp [*]; done)), H', ⟨Nat.le_refl _⟩, by repeat (first | exact Drawn0.refl _ | apply Drawn0.step)⟩
  case round =>
    clear H'
    try clear p2
    obtain ⟨x7_1, x8_1, rfl, rfl, HA, HK1, ⟨m1, rfl⟩⟩ := hrel
    cases gk with
    | zero => exact absurd HA.out (by simp [bits_take.l0])
    | succ k1 =>
      have H := HA.out
      clear HA
      simp only [bits_take.l0] at H
      by_cases c4 : x8_1 < (wrap64 (a1 + a2))
      · rw [if_pos c4] at H
        have c4b0 : decide (x8_1 < (wrap64 (a1 + a2))) = true := decide_eq_true c4
        clear c4
        obtain ⟨ji5, hji5⟩ : ∃ j_ : Int, (wrap64 (Int.tdiv x8_1 8)) = j_ := ⟨_, rfl⟩
        replace H : (if 0 ≤ (ji5) then (if (ji5) < (l0.length : Int) then (if 0 ≤ (wrap64 (7 - (Int.tmod x8_1 8))) then (bits_take.l0 k1 l0 a1 a2 (Go.bits .or .u64 (IntKind.u64.wrap (x7_1 * 2)) (IntKind.u64.wrap (Go.bits .and .u8 (shr .u8 (rd l0 (ji5)) (wrap64 (7 - (Int.tmod x8_1 8)))) 1))) (wrap64 (x8_1 + 1))) else (none)) else (none)) else (none)) = some r := by first | (rw [hji5] at H; exact H) | (simp only [hji5] at H ⊢; exact H)
        have hji5w : (IntKind.i64.wrap (Int.tdiv x8_1 8)) = ji5 := (i64_w _).trans hji5
        by_cases c6 : 0 ≤ (ji5)
        · rw [if_pos c6] at H
          have c6b0 : decide (0 ≤ (ji5)) = true := decide_eq_true c6
          clear c6
          by_cases c7 : (ji5) < (l0.length : Int)
          · rw [if_pos c7] at H
            have c7b0 : decide ((ji5) < (l0.length : Int)) = true := decide_eq_true c7
            clear c7
            obtain ⟨ji8, hji8⟩ : ∃ j_ : Int, (wrap64 (7 - (Int.tmod x8_1 8))) = j_ := ⟨_, rfl⟩
            replace H : (if 0 ≤ (ji8) then (bits_take.l0 k1 l0 a1 a2 (Go.bits .or .u64 (IntKind.u64.wrap (x7_1 * 2)) (IntKind.u64.wrap (Go.bits .and .u8 (shr .u8 (rd l0 (ji5)) (ji8)) 1))) (wrap64 (x8_1 + 1))) else (none)) = some r := by first | (rw [hji8] at H; exact H) | (simp only [hji8] at H ⊢; exact H)
            have hji8w : (IntKind.i64.wrap (7 - (Int.tmod x8_1 8))) = ji8 := (i64_w _).trans hji8
            by_cases c9 : 0 ≤ (ji8)
            · rw [if_pos c9] at H
              have c9b0 := eq_true c9
              have c9b1 : decide (0 ≤ (ji8)) = true := decide_eq_true c9
              clear c9
              obtain ⟨ji10, hji10⟩ : ∃ j_ : Int, (shr .u8 (rd l0 (ji5)) (ji8)) = j_ := ⟨_, rfl⟩
              replace H : (bits_take.l0 k1 l0 a1 a2 (Go.bits .or .u64 (IntKind.u64.wrap (x7_1 * 2)) (IntKind.u64.wrap (Go.bits .and .u8 (ji10) 1))) (wrap64 (x8_1 + 1))) = some r := by first | (rw [hji10] at H; exact H) | (simp only [hji10] at H ⊢; exact H)
              have hji10_ : ((rd l0 (ji5)) / 2 ^ min (ji8).toNat 8) = ji10 := hji10
              have hji10z : (ji8) ≤ 8 → ((rd l0 (ji5)) / 2 ^ (ji8).toNat) = ji10 := shr_small hji10
              have H' := Aside0.mk H
              clear H
              have p344 : 0 ≤ ((ji5) : Int) := of_decide_eq_true (by first | (with_reducible assumption) | assumption)
              have q344 : (ji5) < (l0.length : Int) := of_decide_eq_true (by first | (with_reducible assumption) | assumption)
              obtain ⟨ad344, e344, hx344_0⟩ := Kd.at_int HR0.out (ji5) p344 q344
              cases e344
              replace p344 := eq_true p344
              replace q344 := eq_true q344
              go_wp2
              go_roundg k1
              case measure => have := HK1.out; omega
              case rel => exact ⟨(Go.bits .or .u64 (IntKind.u64.wrap (x7_1 * 2)) (IntKind.u64.wrap (Go.bits .and .u8 (ji10) 1))), (wrap64 (x8_1 + 1)), (by first | rfl | (simp; done) | (simp only [← hji10] <;> (first | rfl | simp)) | (simp [*]; done)), (by first | rfl | (simp; done) | (simp [*]; done)), H', ⟨by have := HK1.out; omega⟩, by repeat (first | exact Drawn0.refl _ | apply Drawn0.step)⟩
            · rw [if_neg c9] at H
              exact absurd H (by simp)
          · rw [if_neg c7] at H
            exact absurd H (by simp)
        · rw [if_neg c6] at H
          exact absurd H (by simp)
      · rw [if_neg c4] at H
        have c4b0 : decide (x8_1 < (wrap64 (a1 + a2))) = false := decide_eq_false c4
        clear c4
        obtain rfl := Option.some.inj H
        go_wp2
        go_ret
        exact ⟨by first | rfl | (simp; done) | (simp [*]; done), by repeat (first | exact Drawn0.refl _ | apply Drawn0.step)⟩

end Go.Proofs.Ytlhaofbncoijfaa.X
namespace Go.Proofs.Ytlhaofbncoijfaa.Math
set_option linter.unusedVariables false
set_option linter.unusedSimpArgs false
open Go.RowKit Go.Proofs.Ytlhaofbncoijfaa.X
open Go.Proofs.YtlhaofbncoijfaaW.PrintWords Go.Proofs.YtlhaofbncoijfaaW.PrintLast Go.Proofs.YtlhaofbncoijfaaW.PrintMore

/-- All are bytes. -/
def Bytes (l : List Int) : Prop := ∀ x ∈ l, 0 ≤ x ∧ x ≤ 255
theorem rd_byte {l : List Int} (h : Bytes l) (i : Int) : 0 ≤ rd l i ∧ rd l i ≤ 255 := by
  unfold rd
  rw [List.getD_eq_getElem?_getD]
  cases hi : l[i.toNat]? with
  | none => simp
  | some x => exact h x (List.mem_of_getElem? hi)

/-- Bit i of a row. -/
def bitN (l : List Int) (i : Nat) : Nat := (rd l ((i / 8 : Nat) : Int)).toNat / 2 ^ (7 - i % 8) % 2
theorem bitN_lt (l : List Int) (i : Nat) : bitN l i < 2 := Nat.mod_lt _ (by decide)

/-- The number that w bits are, from a place on. -/
def takeN (l : List Int) (p : Nat) : Nat → Nat
  | 0 => 0
  | w + 1 => 2 * takeN l p w + bitN l (p + w)
theorem takeN_lt (l : List Int) (p w : Nat) : takeN l p w < 2 ^ w := by
  induction w with
  | zero => simp [takeN]
  | succ w ih => have := bitN_lt l (p + w); rw [Nat.pow_succ]; simp only [takeN]; omega

theorem wrap_small {x : Int} (h0 : -9223372036854775808 ≤ x) (h1 : x ≤ 9223372036854775807) : wrap64 x = x := by unfold wrap64; omega

theorem byte_bit {l : List Int} (h : Bytes l) (i : Nat) : Go.bits .and .u8 (shr .u8 (rd l ((i / 8 : Nat) : Int)) ((7 - i % 8 : Nat) : Int)) 1 = (bitN l i : Int) := by
  obtain ⟨h0, h1⟩ := rd_byte h ((i / 8 : Nat) : Int)
  unfold shr bitN
  obtain ⟨x, hx⟩ := Int.eq_ofNat_of_zero_le h0
  rw [hx] at h1 ⊢
  rw [Int.toNat_natCast, Int.toNat_natCast, Nat.min_eq_left (by show _ ≤ 8; omega)]
  have e : ((x : Int) / 2 ^ (7 - i % 8)) = ((x / 2 ^ (7 - i % 8) : Nat) : Int) := by simp
  have hlt : x / 2 ^ (7 - i % 8) < 256 := Nat.lt_of_le_of_lt (Nat.div_le_self _ _) (by omega)
  rw [e, show (1 : Int) = ((1 : Nat) : Int) from rfl, u8_and_nat _ _ hlt (by decide), nat_mask1]

theorem shl_or (x b : Nat) (hx : x < 9223372036854775808) (hb : b < 2) : Go.bits .or .u64 (IntKind.u64.wrap ((x : Int) * 2)) (IntKind.u64.wrap (b : Int)) = ((2 * x + b : Nat) : Int) := by
  have e1 : IntKind.u64.wrap ((x : Int) * 2) = ((2 * x : Nat) : Int) := by rw [IntKind.wrap_u64]; omega
  have e2 : IntKind.u64.wrap (b : Int) = (b : Int) := by rw [IntKind.wrap_u64]; omega
  rw [e1, e2, u64_or_nat _ _ (by omega) (by omega), nat_join 1 _ _ (by simp) (by simpa using hb)]

theorem take_loop {l : List Int} (hb : Bytes l) (hl : l.length ≤ 140737488355328) (p W : Nat) (hW : W ≤ 64) (hp : p + W ≤ 8 * l.length) (d : Nat) :
    ∀ w, w + d = W → bits_take.l0 (d + 1) l (p : Int) (W : Int) (takeN l p w : Int) ((p + w : Nat) : Int) = some ((takeN l p W : Nat) : Int) := by
  induction d with
  | zero =>
    intro w hw
    obtain rfl : w = W := by omega
    unfold bits_take.l0
    rw [wrap_small (by omega) (by omega), if_neg (by omega)]
  | succ d ih =>
    intro w hw
    unfold bits_take.l0
    have hi : (Int.tdiv ((p + w : Nat) : Int) 8) = (((p + w) / 8 : Nat) : Int) := by rw [Int.tdiv_eq_ediv_of_nonneg (by omega)]; omega
    have hm : (7 - Int.tmod ((p + w : Nat) : Int) 8) = ((7 - (p + w) % 8 : Nat) : Int) := by rw [Int.tmod_eq_emod_of_nonneg (by omega)]; omega
    rw [wrap_small (x := (p : Int) + W) (by omega) (by omega), if_pos (by omega), hi, hm, wrap_small (x := (((p + w) / 8 : Nat) : Int)) (by omega) (by omega), wrap_small (x := ((7 - (p + w) % 8 : Nat) : Int)) (by omega) (by omega),
      if_pos (by omega), if_pos (by omega), if_pos (by omega), byte_bit hb]
    have hx := takeN_lt l p w
    have h63 : takeN l p w < 9223372036854775808 := Nat.lt_of_lt_of_le hx (by
      have := Nat.pow_le_pow_right (show 0 < 2 by decide) (show w ≤ 63 by omega)
      exact this)
    rw [shl_or _ _ h63 (bitN_lt _ _), wrap_small (by omega) (by omega)]
    have := ih (w + 1) (by omega)
    rw [show ((p + w : Nat) : Int) + 1 = ((p + (w + 1) : Nat) : Int) by omega]
    exact this

theorem take_some {l : List Int} (hb : Bytes l) (hl : l.length ≤ 140737488355328) (p W : Nat) (hW : W ≤ 64) (hp : p + W ≤ 8 * l.length) : bits_take.f (W + 1) l (p : Int) (W : Int) = some ((takeN l p W : Nat) : Int) := by
  have := take_loop hb hl p W hW hp W 0 (by omega)
  unfold bits_take.f
  exact this
end Go.Proofs.Ytlhaofbncoijfaa.Math
namespace Go.Proofs.Ytlhaofbncoijfaa.HandF
set_option linter.unusedVariables false
set_option linter.unusedSimpArgs false
open Go.RowKit Go.Proofs.Ytlhaofbncoijfaa.Blocks Go.Proofs.Ytlhaofbncoijfaa.Hand Go.Proofs.Ytlhaofbncoijfaa.X Go.Proofs.Ytlhaofbncoijfaa.Math
open Go.Proofs.YtlhaofbncoijfaaW.PrintWords Go.Proofs.YtlhaofbncoijfaaW.PrintLast Go.Proofs.YtlhaofbncoijfaaW.PrintMore

def pannierref01_put.f (l0 : List Int) (a1 a2 a3 : Int) : Option (List Int × Int) :=
  if 0 ≤ a1 ∧ (a1 + 7) / 8 = l0.length ∧ l0.length + 9 ≤ 140737488355328 ∧ 0 ≤ a3 ∧ a3 ≤ 64 ∧ 0 ≤ a2 ∧ a2 < 18446744073709551616 then
    some ((highs a2 a3.toNat).foldl stepB (l0, a1)) else none

theorem bitAt_nat (v m : Nat) (hv : v < 18446744073709551616) (hm : m < 64) : bitAt (v : Int) m = decide (v / 2 ^ m % 2 = 1) := by
  unfold bitAt
  have h1 : (2 : Nat) ^ m < 18446744073709551616 := by
    have := Nat.pow_lt_pow_right (show 1 < 2 by decide) hm
    exact this
  have e : IntKind.u64.wrap (2 ^ m) = ((2 ^ m : Nat) : Int) := by
    rw [IntKind.wrap_u64]
    have : ((2 : Int) ^ m) = ((2 ^ m : Nat) : Int) := by simp
    rw [this]
    generalize 2 ^ m = y at h1
    omega
  rw [e, u64_and_nat _ _ hv h1, nat_bit]
  have hp : 0 < 2 ^ m := Nat.pow_pos (by decide)
  have h2 : v / 2 ^ m % 2 < 2 := Nat.mod_lt _ (by decide)
  rcases Nat.lt_or_ge (v / 2 ^ m % 2) 1 with h | h
  · have : v / 2 ^ m % 2 = 0 := by omega
    rw [this]
    simp
  · have h3 : v / 2 ^ m % 2 = 1 := by omega
    rw [h3]
    have hp2 : ((2 : Int) ^ m) ≠ 0 := by
      have : ((2 ^ m : Nat) : Int) ≠ 0 := by omega
      simpa using this
    simp [hp2]

theorem ref_bit (v m : Nat) (hv : v < 18446744073709551616) : Go.bits .and .u64 ((v : Int) / 2 ^ m) 1 = ((v / 2 ^ m % 2 : Nat) : Int) := by
  have e : ((v : Int) / 2 ^ m) = ((v / 2 ^ m : Nat) : Int) := by simp
  rw [e, show (1 : Int) = ((1 : Nat) : Int) from rfl, u64_and_nat _ _ (Nat.lt_of_le_of_lt (Nat.div_le_self _ _) hv) (by decide), nat_mask1]

theorem own_made0 (W : World) (base n : Nat) (h : base ≤ W.heap.size) (hn : n ≤ 281474976710656) : (W.alloc (.cells (madeCells #[.int .u8 0] n) 5)).ownsRow base 5 1 (.slice (some ⟨W.heap.size, 0, none⟩) 0 n) ([] : List Int).length (encs (Value.int .u8) []) :=
  World.ownsRow_made W _ n h (by unfold maxLen; omega) (by rw [size_madeCells]; simp)

theorem ref_set {base g p cap : Nat} {w0 W : World} {zs : List Int} {q x : Int} (hl : zs.length = p + 1) (hq : q / 8 = (p : Int)) (HO : W.ownsRow base 5 1 (.slice (some ⟨g, 0, none⟩) (p + 1) cap) (p + 1) (nums .u8 zs)) (HB : Below base w0 W) :
    ((W.setCell ⟨g, (q / 8).toNat, none⟩ (.int .u8 x)).drew).ownsRow base 5 1 (.slice (some ⟨g, 0, none⟩) (p + 1) cap) (zs.set p x).length (nums .u8 (zs.set p x)) ∧ Below base w0 ((W.setCell ⟨g, (q / 8).toNat, none⟩ (.int .u8 x)).drew) := by
  have hst := (YtlhaofbncoijfaaW.PrintWords.own_store HO (q / 8) x).1
  have hp : (q / 8).toNat = p := by omega
  have hb : base ≤ g := own_base HO g rfl
  rw [hp] at hst ⊢
  rw [List.length_set, hl]
  exact ⟨hst.drew, (HB.setCell (p := ⟨g, p, none⟩) hb _).drew⟩

theorem step_app {ys : List Int} {q : Int} (h : q % 8 = 0) (hq : q / 8 = (ys.length : Int)) :
    stepB (ys, q) true = ((ys ++ [0]).set ys.length (Go.bits .or .u8 (rd (ys ++ [0]) (q / 8)) 128), q + 1) ∧ stepB (ys, q) false = (ys ++ [0], q + 1) := by
  unfold stepB
  rw [if_pos h, hq]
  simp [h]

theorem step_same {ys : List Int} {p : Nat} {q : Int} (h : ¬ q % 8 = 0) (hl : ys.length = p + 1) (hq : q / 8 = (p : Int)) :
    stepB (ys, q) true = (ys.set p (Go.bits .or .u8 (rd ys (q / 8)) (128 / 2 ^ (q % 8).toNat)), q + 1) ∧ stepB (ys, q) false = (ys, q + 1) := by
  unfold stepB
  rw [if_neg h, hq]
  simp [hl]

set_option maxRecDepth 100000 in
set_option maxHeartbeats 2000000 in
theorem pannierref01_put.calls (A0 : Option Addr) (c0 : Nat) (l0 : List Int) (a1 a2 a3 : Int) (r1 : List Int) (r2 : Int) (w : World) (hr0 : Kd.C (Kd.int .u8) w A0 l0.length l0) (hc0 : l0.length ≤ c0) (h : pannierref01_put.f l0 a1 a2 a3 = some (r1, r2)) :
    Calls Try.prog 81 #[.slice A0 l0.length c0, .int .i64 a1, .int .u64 a2, .int .i64 a3] w fun e w' => ∃ v0_ : Value, e = .returned (.tuple #[v0_, .int .i64 r2]) ∧ Kd.R (Kd.int .u8) 5 w' w.heap.size (fun _ => True) v0_ r1 ∧ Below w.heap.size w w' := by
  unfold pannierref01_put.f at h
  by_cases c1 : 0 ≤ a1 ∧ (a1 + 7) / 8 = l0.length ∧ l0.length + 9 ≤ 140737488355328 ∧ 0 ≤ a3 ∧ a3 ≤ 64 ∧ 0 ≤ a2 ∧ a2 < 18446744073709551616
  · rw [if_pos c1] at h
    obtain ⟨g1, g2, g3, g4, g5, g6, g7⟩ := c1
    have H := Aside0.mk (Option.some.inj h)
    have HR0 := Aside0.mk hr0
    clear h hr0
    obtain ⟨v, rfl⟩ := Int.eq_ofNat_of_zero_le g6
    obtain ⟨wd, rfl⟩ := Int.eq_ofNat_of_zero_le g4
    have G2 := Aside0.mk g2
    have G7 : Aside0 (v < 18446744073709551616) := ⟨by omega⟩
    clear g2 g6 g4 g7
    obtain ⟨i0, hi0, hz0, hz1, hz2⟩ := info_parts info5
    have hmk : ∀ W : World, (Instr.makeSlice 43 (.int .i64 0) (.int .i64 ((l0.length : Int) + 9))).run Try.prog W = .ok (.slice (some ⟨W.heap.size, 0, none⟩) 0 (l0.length + 9)) (W.alloc (.cells (madeCells #[.int .u8 0] (l0.length + 9)) 5)) := fun W => by
      have := run_make (P := Try.prog) W 43 5 i0 (.int .u8 0) Try.underlying43 hi0 hz0 .i64 .i64 0 ((l0.length : Int) + 9) (Int.le_refl _) (by omega) (by rw [hz2]; omega) (by omega)
      rw [hz1] at this
      rw [this, show ((l0.length : Int) + 9).toNat = l0.length + 9 by omega]
      simp [Value.cells]
    go_enter Try.func81, Try.ntmps81
    go_wp2_with (at_builtin; refine print_append_row_of (w0 := w) (Value.int .u8) 0 w.heap.size rfl _ _ 43 5 (.int .u8 0) 1 rfl Try.underlying43 info5 rfl (by decide) (fun _ => rfl) _ [] l0 A0 l0.length c0 rfl rfl (own_made0 w _ _ (Nat.le_refl _) (by omega)) (Kd.reads_of_C (d := 0) (h1 := fun _ => rfl) (Kd.C_alloc HR0.out _)) ((Below.refl _ _).alloc (Nat.le_refl _) _) (by simp) (by simp only [List.length_nil]; omega) ?_; intro v1 w1 hown1 hb1 _ _; have Hown := Aside0.mk hown1; have HB := Aside0.mk hb1; clear hown1 hb1)
    go_loopw [1, 10, 11] (fun v1 v10 v11 wr => ∃ d : Nat, d ≤ wd ∧ v11 = .int .i64 ((d : Int) - 1) ∧ v1 = .int .i64 (((highs v wd).take (wd - d)).foldl stepB (l0, a1)).2 ∧
        Aside0 (wr.ownsRow w.heap.size 5 1 v10 (((highs v wd).take (wd - d)).foldl stepB (l0, a1)).1.length (nums .u8 (((highs v wd).take (wd - d)).foldl stepB (l0, a1)).1)) ∧ Aside0 (Below w.heap.size w wr))
      (fun _ _ v11 _ => (intOf v11 + 1).toNat)
    case atStart => exact ⟨wd, Nat.le_refl _, rfl, by rw [Nat.sub_self]; rfl, by rw [Nat.sub_self]; exact Hown, HB⟩
    case round =>
      obtain ⟨d, hd, rfl, rfl, HO, HBl⟩ := hrel
      have hinv := fold_inv ((highs v wd).take (wd - d)) (l0, a1) G2.out
      rw [List.length_take, highs_length, Nat.min_eq_left (by omega)] at hinv
      have hnext : ∀ m, d = m + 1 → ((highs v wd).take (wd - m)).foldl stepB (l0, a1) = stepB (((highs v wd).take (wd - d)).foldl stepB (l0, a1)) (bitAt v m) := by
        intro m hm
        have hx : (highs v wd)[wd - d]? = some (bitAt v (wd - 1 - (wd - d))) := highs_at (by omega)
        rw [show wd - m = (wd - d) + 1 by omega, List.take_add_one, hx, List.foldl_append, show wd - 1 - (wd - d) = m by omega]
        rfl
      have hend : d = 0 → ((highs v wd).take (wd - d)).foldl stepB (l0, a1) = (r1, r2) := by
        intro h0
        rw [h0, Nat.sub_zero, List.take_of_length_le (by rw [highs_length]; omega)]
        exact H.out
      obtain ⟨s, hs⟩ : ∃ s, ((highs v wd).take (wd - d)).foldl stepB (l0, a1) = s := ⟨_, rfl⟩
      rw [hs] at HO hinv hnext hend ⊢
      cases d with
      | zero =>
        obtain rfl := hend rfl
        clear hnext hinv hend hs
        go_wp2
        go_ret2
        exact ⟨_, rfl, Kd.R_of_own HO.out (fun _ _ => trivial), HBl.out⟩
      | succ m =>
        have hnx := Aside0.mk (hnext m rfl)
        obtain ⟨ys, q⟩ := s
        obtain ⟨hlen, hq⟩ := hinv
        dsimp only at hlen hq HO
        have hG2 := G2.out
        have hq0 : 0 ≤ q := by omega
        have hq1 : q ≤ 1125899906842624 * 8 := by omega
        have hyl : ys.length + 1 ≤ 140737488355328 := by omega
        have hm64 : m < 64 := by omega
        have hbit := ref_bit v m G7.out
        have hbv := Aside0.mk (bitAt_nat v m G7.out hm64)
        have hM : Aside0 (((m + 1 : Nat) : Int) - 1 = (m : Int)) := ⟨by omega⟩
        clear hnext hend hs
        have hB1 := HBl.out.size
        obtain ⟨A1, cA1, rfl⟩ := own_slice HO.out
        rw [hM.out]
        have Hlen : Aside0 ((q + 7) / 8 = (ys.length : Int)) := ⟨hlen⟩
        clear hlen hq hG2
        by_cases hb : v / 2 ^ m % 2 = 1
        · have hbd : (Go.bits .and .u64 ((v : Int) / 2 ^ m) 1 == 1) = true := by rw [hbit, hb]; rfl
          have hbt := Aside0.mk (hbv.out.trans (decide_eq_true hb))
          clear hb hbit
          by_cases h8 : q % 8 = 0
          · have hqd : q / 8 = (ys.length : Int) := by have := Hlen.out; omega
            have Hq := Aside0.mk hqd
            have Hst := Aside0.mk (step_app h8 hqd)
            clear hqd
            go_wp2_with (at_builtin; refine print_append_num (w0 := w) w.heap.size rfl _ _ 43 5 .u8 1 rfl Try.underlying43 info5 (by decide) (.slice A1 ys.length cA1) ys 0 rfl rfl HO.out HBl.out hB1 (by omega) ?_; intro v2 w2 hown2 hb2 hg2 hat2; have HO2 := Aside0.mk hown2; have HB2 := Aside0.mk hb2; clear hown2 hb2 hg2 hat2; obtain ⟨A2, c2, rfl⟩ := own_slice HO2.out)
            obtain ⟨g, cap, hsv, hbg, _⟩ := HO2.out.form (by simp)
            simp only [Value.slice.injEq] at hsv
            obtain ⟨rfl, _, rfl⟩ := hsv
            rw [List.length_append, List.length_singleton] at HO2
            have hcell := YtlhaofbncoijfaaW.PrintWords.own_at HO2.out (q / 8) (by omega) (by have := Hq.out; omega)
            have hcg := hcell.1
            have hfg := hcell.2
            clear hcell
            have hq80 : 0 ≤ q / 8 := by omega
            have hq81 : q / 8 < (ys.length : Int) + 1 := by have := Hq.out; omega
            have hq82 : (q / 8).toNat < ys.length + 1 := by omega
            go_region
            have hset := ref_set (x := Go.bits .or .u8 (rd (ys ++ [0]) (q / 8)) 128) (by simp) Hq.out HO2.out HB2.out
            obtain ⟨W3, hW3⟩ : ∃ W3, (w2.setCell ⟨g, (q / 8).toNat, none⟩ (.int .u8 (Go.bits .or .u8 (rd (ys ++ [0]) (q / 8)) 128))).drew = W3 := ⟨_, rfl⟩
            rw [hW3] at hset ⊢
            have HO3 := Aside0.mk hset.1
            have HB3 := Aside0.mk hset.2
            clear hset hW3 hcg hfg
            go_wp2
            go_roundw
            case rel =>
              refine ⟨m, by omega, rfl, ?_, ?_, HB3⟩
              · rw [hnx.out, hbt.out, Hst.out.1]
              · rw [hnx.out, hbt.out, Hst.out.1]
                exact HO3
            case measure => simp [intOf] <;> omega
          · obtain ⟨p, hp⟩ : ∃ p, ys.length = p + 1 := ⟨ys.length - 1, by have := Hlen.out; omega⟩
            have hqd : q / 8 = (p : Int) := by have := Hlen.out; omega
            have Hq := Aside0.mk hqd
            have Hst := Aside0.mk (step_same h8 hp hqd)
            have h8b : (q % 8 == 0) = false := by simpa using h8
            obtain ⟨g, cap, hsv, hbg, _⟩ := HO.out.form (by omega)
            simp only [Value.slice.injEq] at hsv
            obtain ⟨rfl, _, rfl⟩ := hsv
            have HO2 : Aside0 (wr.ownsRow w.heap.size 5 1 (.slice (some ⟨g, 0, none⟩) (p + 1) cA1) (p + 1) (nums .u8 ys)) := ⟨by rw [← hp]; exact HO.out⟩
            have hcell := YtlhaofbncoijfaaW.PrintWords.own_at HO2.out (q / 8) (by omega) (by omega)
            have hcg := hcell.1
            have hfg := hcell.2
            have Hp := Aside0.mk hp
            have H8 := Aside0.mk h8
            have hq80 : 0 ≤ q / 8 := by omega
            have hq81 : q / 8 < (p : Int) + 1 := by omega
            have hq82 : (q / 8).toNat < p + 1 := by omega
            rw [hp]
            clear hcell hqd hp h8 HO
            go_wp2
            go_region
            have hset := ref_set (x := Go.bits .or .u8 (rd ys (q / 8)) (128 / 2 ^ (q % 8).toNat)) Hp.out Hq.out HO2.out HBl.out
            obtain ⟨W3, hW3⟩ : ∃ W3, (wr.setCell ⟨g, (q / 8).toNat, none⟩ (.int .u8 (Go.bits .or .u8 (rd ys (q / 8)) (128 / 2 ^ (q % 8).toNat)))).drew = W3 := ⟨_, rfl⟩
            rw [hW3] at hset ⊢
            have HO3 := Aside0.mk hset.1
            have HB3 := Aside0.mk hset.2
            clear hset hW3 hcg hfg
            go_wp2
            go_roundw
            case rel =>
              refine ⟨m, by omega, rfl, ?_, ?_, HB3⟩
              · rw [hnx.out, hbt.out, Hst.out.1]
              · rw [hnx.out, hbt.out, Hst.out.1]
                exact HO3
            case measure => simp [intOf] <;> omega
        · have hbd : (Go.bits .and .u64 ((v : Int) / 2 ^ m) 1 == 1) = false := by rw [hbit, show v / 2 ^ m % 2 = 0 by omega]; rfl
          have hbt := Aside0.mk (hbv.out.trans (decide_eq_false hb))
          clear hb hbit
          by_cases h8 : q % 8 = 0
          · have hqd : q / 8 = (ys.length : Int) := by have := Hlen.out; omega
            have Hst := Aside0.mk (step_app h8 hqd)
            clear hqd
            go_wp2_with (at_builtin; refine print_append_num (w0 := w) w.heap.size rfl _ _ 43 5 .u8 1 rfl Try.underlying43 info5 (by decide) (.slice A1 ys.length cA1) ys 0 rfl rfl HO.out HBl.out hB1 (by omega) ?_; intro v2 w2 hown2 hb2 hg2 hat2; have HO2 := Aside0.mk hown2; have HB2 := Aside0.mk hb2; clear hown2 hb2 hg2 hat2; obtain ⟨A2, c2, rfl⟩ := own_slice HO2.out)
            go_wp2
            go_roundw
            case rel =>
              refine ⟨m, by omega, rfl, ?_, ?_, HB2⟩
              · rw [hnx.out, hbt.out, Hst.out.2]
              · rw [hnx.out, hbt.out, Hst.out.2]
                exact ⟨by have := HO2.out; rw [List.length_append, List.length_singleton] at this ⊢; exact this⟩
            case measure => simp [intOf] <;> omega
          · obtain ⟨p, hp⟩ : ∃ p, ys.length = p + 1 := ⟨ys.length - 1, by have := Hlen.out; omega⟩
            have hqd : q / 8 = (p : Int) := by have := Hlen.out; omega
            have Hst := Aside0.mk (step_same h8 hp hqd)
            have h8b : (q % 8 == 0) = false := by simpa using h8
            clear hqd hp h8
            go_wp2
            go_roundw
            case rel =>
              refine ⟨m, by omega, rfl, ?_, ?_, HBl⟩
              · rw [hnx.out, hbt.out, Hst.out.2]
              · rw [hnx.out, hbt.out, Hst.out.2]
                exact HO
            case measure => simp [intOf] <;> omega
  · rw [if_neg c1] at h
    cases h
end Go.Proofs.Ytlhaofbncoijfaa.HandF
namespace Go.Proofs.Ytlhaofbncoijfaa.X
open Go.RowKit Go.Proofs.YtlhaofbncoijfaaW.PrintWords Go.Proofs.YtlhaofbncoijfaaW.PrintLast Go.Proofs.YtlhaofbncoijfaaW.PrintMore Go.Proofs.Ytlhaofbncoijfaa.HandF
attribute [local go_sem] max2_int min2_int max_two min_two max_three min_three max_four min_four   -- for this text's walks alone
set_option linter.unusedVariables false
set_option linter.unusedSimpArgs false

/-! ### pannierref01_bit: function 73 -/
def pannierref01_bit.f (l0 : List Int) (a1 : Int) : Option (Int) := if 0 ≤ (wrap64 (Int.tdiv a1 8)) then (if (wrap64 (Int.tdiv a1 8)) < (l0.length : Int) then (if 0 ≤ (wrap64 (7 - (Int.tmod a1 8))) then (some (Go.bits .and .u64 (IntKind.u64.wrap (shr .u8 (rd l0 (wrap64 (Int.tdiv a1 8))) (wrap64 (7 - (Int.tmod a1 8))))) 1)) else (none)) else (none)) else (none)
set_option maxHeartbeats 8000000 in
set_option maxRecDepth 100000 in
theorem pannierref01_bit.calls (A0 : Option Addr) (c0 : Nat) (l0 : List Int) (a1 : Int) (r : Int) (w : World) (hr0 : Kd.C (Kd.int .u8) w A0 l0.length l0) (hc0 : l0.length ≤ c0) (h : pannierref01_bit.f l0 a1 = some r) :
    Calls Try.prog 73 #[.slice A0 l0.length c0, .int .i64 a1] w fun e w' => e = .returned (.int .u64 r) ∧ Drawn0 w w' := by
  have HR0 := Aside0.mk hr0
  have HC0 := Aside0.mk hc0
  clear hr0 hc0
  have H : (if 0 ≤ (wrap64 (Int.tdiv a1 8)) then (if (wrap64 (Int.tdiv a1 8)) < (l0.length : Int) then (if 0 ≤ (wrap64 (7 - (Int.tmod a1 8))) then (some (Go.bits .and .u64 (IntKind.u64.wrap (shr .u8 (rd l0 (wrap64 (Int.tdiv a1 8))) (wrap64 (7 - (Int.tmod a1 8))))) 1)) else (none)) else (none)) else (none)) = some r := h
  clear h
  obtain ⟨ji3, hji3⟩ : ∃ j_ : Int, (wrap64 (Int.tdiv a1 8)) = j_ := ⟨_, rfl⟩
  replace H : (if 0 ≤ (ji3) then (if (ji3) < (l0.length : Int) then (if 0 ≤ (wrap64 (7 - (Int.tmod a1 8))) then (some (Go.bits .and .u64 (IntKind.u64.wrap (shr .u8 (rd l0 (ji3)) (wrap64 (7 - (Int.tmod a1 8))))) 1)) else (none)) else (none)) else (none)) = some r := by first | (rw [hji3] at H; exact H) | (simp only [hji3] at H ⊢; exact H)
  have hji3w : (IntKind.i64.wrap (Int.tdiv a1 8)) = ji3 := (i64_w _).trans hji3
  by_cases c4 : 0 ≤ (ji3)
  · rw [if_pos c4] at H
    have c4b0 : decide (0 ≤ (ji3)) = true := decide_eq_true c4
    clear c4
    by_cases c5 : (ji3) < (l0.length : Int)
    · rw [if_pos c5] at H
      have c5b0 : decide ((ji3) < (l0.length : Int)) = true := decide_eq_true c5
      clear c5
      obtain ⟨ji6, hji6⟩ : ∃ j_ : Int, (wrap64 (7 - (Int.tmod a1 8))) = j_ := ⟨_, rfl⟩
      replace H : (if 0 ≤ (ji6) then (some (Go.bits .and .u64 (IntKind.u64.wrap (shr .u8 (rd l0 (ji3)) (ji6))) 1)) else (none)) = some r := by first | (rw [hji6] at H; exact H) | (simp only [hji6] at H ⊢; exact H)
      have hji6w : (IntKind.i64.wrap (7 - (Int.tmod a1 8))) = ji6 := (i64_w _).trans hji6
      by_cases c7 : 0 ≤ (ji6)
      · rw [if_pos c7] at H
        have c7b0 := eq_true c7
        have c7b1 : decide (0 ≤ (ji6)) = true := decide_eq_true c7
        clear c7
        obtain ⟨ji8, hji8⟩ : ∃ j_ : Int, (shr .u8 (rd l0 (ji3)) (ji6)) = j_ := ⟨_, rfl⟩
        replace H : (some (Go.bits .and .u64 (IntKind.u64.wrap (ji8)) 1)) = some r := by first | (rw [hji8] at H; exact H) | (simp only [hji8] at H ⊢; exact H)
        have hji8_ : ((rd l0 (ji3)) / 2 ^ min (ji6).toNat 8) = ji8 := hji8
        have hji8z : (ji6) ≤ 8 → ((rd l0 (ji3)) / 2 ^ (ji6).toNat) = ji8 := shr_small hji8
        obtain rfl := Option.some.inj H
        have p339 : 0 ≤ ((ji3) : Int) := of_decide_eq_true (by first | (with_reducible assumption) | assumption)
        have q339 : (ji3) < (l0.length : Int) := of_decide_eq_true (by first | (with_reducible assumption) | assumption)
        obtain ⟨ad339, e339, hx339_0⟩ := Kd.at_int HR0.out (ji3) p339 q339
        cases e339
        replace p339 := eq_true p339
        replace q339 := eq_true q339
        go_enter Try.func73, Try.ntmps73
        go_wp2
        go_ret
        exact ⟨by first | rfl | (simp; done) | (simp only [← hji3, ← hji6, ← hji8] <;> (first | rfl | simp)) | (simp [*]; done), by repeat (first | exact Drawn0.refl _ | apply Drawn0.step)⟩
      · rw [if_neg c7] at H
        exact absurd H (by simp)
    · rw [if_neg c5] at H
      exact absurd H (by simp)
  · rw [if_neg c4] at H
    exact absurd H (by simp)

end Go.Proofs.Ytlhaofbncoijfaa.X
namespace Go.Proofs.Ytlhaofbncoijfaa.X
open Go.RowKit Go.Proofs.YtlhaofbncoijfaaW.PrintWords Go.Proofs.YtlhaofbncoijfaaW.PrintLast Go.Proofs.YtlhaofbncoijfaaW.PrintMore Go.Proofs.Ytlhaofbncoijfaa.HandF
attribute [local go_sem] max2_int min2_int max_two min_two max_three min_three max_four min_four   -- for this text's walks alone
set_option linter.unusedVariables false
set_option linter.unusedSimpArgs false

/-! ### pannierref01_Right: function 56 -/
mutual
def pannierref01_Right.j0 : Nat → List Int → Int → Bool → Option (Bool)
  | 0, _, _, _ => none
  | k + 1, x0, x1, x22 => if x22 = true then (some false) else (pannierref01_Right.l0 k x0 x1)
def pannierref01_Right.l0 : Nat → List Int → Int → Option (Bool)
  | 0, _, _ => none
  | k + 1, x0, x5 => if x5 < (wrap64 (8 * (x0.length : Int))) then ((pannierref01_bit.f x0 x5).bind fun t340 => (if t340 = 0 then (pannierref01_Right.l0 k x0 (wrap64 (x5 + 1))) else (some false))) else (some true)
end
def pannierref01_Right.f (k : Nat) (l0 : List Int) (a1 : Int) : Option (Bool) := if a1 < 0 then (pannierref01_Right.j0 k l0 a1 true) else (if a1 > (wrap64 (8 * (l0.length : Int))) then (pannierref01_Right.j0 k l0 a1 true) else (pannierref01_Right.j0 k l0 a1 (decide ((wrap64 ((wrap64 (8 * (l0.length : Int))) - a1)) ≥ 8))))
theorem pannierref01_Right.mono_l : ∀ k, (∀ y0 y1 y2, LeO (pannierref01_Right.j0 k y0 y1 y2) (pannierref01_Right.j0 (k + 1) y0 y1 y2)) ∧ (∀ y0 y1, LeO (pannierref01_Right.l0 k y0 y1) (pannierref01_Right.l0 (k + 1) y0 y1))
  | 0 => ⟨fun _ _ _ r h => by simp [pannierref01_Right.j0] at h, fun _ _ r h => by simp [pannierref01_Right.l0] at h⟩
  | k + 1 => by
    obtain ⟨ih0, ih1⟩ := pannierref01_Right.mono_l k
    refine ⟨?_, ?_⟩
    · intro y0 y1 y2
      unfold pannierref01_Right.j0
      repeat' first
      | (with_reducible exact ih0 _ _ _)
      | (with_reducible exact ih1 _ _)
      | (with_reducible exact LeO.refl _)
      | (with_reducible exact LeO.none _)
      | (with_reducible refine LeO.ite ?_ ?_)
      | (with_reducible refine LeO.bind ?_ (fun _ => ?_))
      | exact ih0 _ _ _
      | exact ih1 _ _
      | exact LeO.none _
      | refine LeO.ite ?_ ?_
      | refine LeO.bind ?_ (fun _ => ?_)
    · intro y0 y1
      unfold pannierref01_Right.l0
      repeat' first
      | (with_reducible exact ih0 _ _ _)
      | (with_reducible exact ih1 _ _)
      | (with_reducible exact LeO.refl _)
      | (with_reducible exact LeO.none _)
      | (with_reducible refine LeO.ite ?_ ?_)
      | (with_reducible refine LeO.bind ?_ (fun _ => ?_))
      | exact ih0 _ _ _
      | exact ih1 _ _
      | exact LeO.none _
      | refine LeO.ite ?_ ?_
      | refine LeO.bind ?_ (fun _ => ?_)
theorem pannierref01_Right.mono : ∀ a0 a1 k, LeO (pannierref01_Right.f k a0 a1) (pannierref01_Right.f (k + 1) a0 a1) := by
  intro a0 a1 k
  obtain ⟨ih0, ih1⟩ := pannierref01_Right.mono_l k
  unfold pannierref01_Right.f
  repeat' first
      | (with_reducible exact ih0 _ _ _)
      | (with_reducible exact ih1 _ _)
      | (with_reducible exact LeO.refl _)
      | (with_reducible exact LeO.none _)
      | (with_reducible refine LeO.ite ?_ ?_)
      | (with_reducible refine LeO.bind ?_ (fun _ => ?_))
      | exact ih0 _ _ _
      | exact ih1 _ _
      | exact LeO.none _
      | refine LeO.ite ?_ ?_
      | refine LeO.bind ?_ (fun _ => ?_)
set_option maxHeartbeats 8000000 in
set_option maxRecDepth 100000 in
theorem pannierref01_Right.calls (k : Nat) (A0 : Option Addr) (c0 : Nat) (l0 : List Int) (a1 : Int) (r : Bool) (w : World) (hr0 : Kd.C (Kd.int .u8) w A0 l0.length l0) (hc0 : l0.length ≤ c0) (h : pannierref01_Right.f k l0 a1 = some r) :
    Calls Try.prog 56 #[.slice A0 l0.length c0, .int .i64 a1] w fun e w' => e = .returned (.bool r) ∧ Drawn0 w w' := by
  have HR0 := Aside0.mk hr0
  have HC0 := Aside0.mk hc0
  clear hr0 hc0
  have H : (if a1 < 0 then (pannierref01_Right.j0 k l0 a1 true) else (if a1 > (wrap64 (8 * (l0.length : Int))) then (pannierref01_Right.j0 k l0 a1 true) else (pannierref01_Right.j0 k l0 a1 (decide ((wrap64 ((wrap64 (8 * (l0.length : Int))) - a1)) ≥ 8))))) = some r := h
  clear h
  have HC3 := Aside0.mk H
  clear H
  go_enter Try.func56, Try.ntmps56
  go_upto_region 1 with (fail)
  go_cut [22] (fun v22 wc => ∃ (kq : Nat) (x22_2 : Bool), v22 = .bool x22_2 ∧ Aside0 (pannierref01_Right.j0 kq l0 a1 x22_2 = some r) ∧ Aside0 (kq ≤ k) ∧ Drawn0 w wc)
  case first =>
    have H := HC3.out
    clear HC3
    by_cases c4 : a1 < 0
    · rw [if_pos c4] at H
      have c4b0 : decide (a1 < 0) = true := decide_eq_true c4
      clear c4
      (first | rw [c4b0] | (simp only [i64_w, i32_w]; rw [c4b0]) | skip)
      have H' := Aside0.mk H
      clear H
      go_wp2
      go_meet
      case rel => exact ⟨_, (true), (by first | rfl | (simp; done) | (simp [*]; done)), H', ⟨by first | omega | exact Nat.le_refl _⟩, by repeat (first | exact Drawn0.refl _ | apply Drawn0.step)⟩
    · rw [if_neg c4] at H
      have c4b0 : decide (a1 < 0) = false := decide_eq_false c4
      clear c4
      (first | rw [c4b0] | (simp only [i64_w, i32_w]; rw [c4b0]) | skip)
      by_cases c5 : a1 > (wrap64 (8 * (l0.length : Int)))
      · rw [if_pos c5] at H
        have c5b0 : decide ((wrap64 (8 * (l0.length : Int))) < a1) = true := decide_eq_true c5
        clear c5
        have H' := Aside0.mk H
        clear H
        go_wp2
        go_meet
        case rel => exact ⟨_, (true), (by first | rfl | (simp; done) | (simp [*]; done)), H', ⟨by first | omega | exact Nat.le_refl _⟩, by repeat (first | exact Drawn0.refl _ | apply Drawn0.step)⟩
      · rw [if_neg c5] at H
        have c5b0 : decide ((wrap64 (8 * (l0.length : Int))) < a1) = false := decide_eq_false c5
        clear c5
        have H' := Aside0.mk H
        clear H
        go_wp2
        go_meet
        case rel => exact ⟨_, (decide ((wrap64 ((wrap64 (8 * (l0.length : Int))) - a1)) ≥ 8)), (by first | rfl | (simp; done) | (simp [*]; done)), H', ⟨by first | omega | exact Nat.le_refl _⟩, by repeat (first | exact Drawn0.refl _ | apply Drawn0.step)⟩
  case rest =>
    clear HC3
    try clear p2
    try clear c4
    try clear c4b0
    try clear c5
    try clear c5b0
    obtain ⟨kq, x22_2, rfl, HA, HJ2, ⟨mc2, rfl⟩⟩ := hcut
    cases kq with
    | zero => exact absurd HA.out (by simp [pannierref01_Right.j0])
    | succ kj2 =>
      have H := HA.out
      clear HA
      simp only [pannierref01_Right.j0] at H
      by_cases c6 : x22_2 = true
      · subst c6
        have H1 : (some false) = some r := by rw [if_pos rfl] at H; exact H
        clear H
        have H := H1
        clear H1
        obtain rfl := Option.some.inj H
        go_wp2
        go_ret
        exact ⟨by first | rfl | (simp; done) | (simp [*]; done), by repeat (first | exact Drawn0.refl _ | apply Drawn0.step)⟩
      · replace c6 := Bool.eq_false_iff.mpr c6
        subst c6
        have H1 : (pannierref01_Right.l0 kj2 l0 a1) = some r := by rw [if_neg (show ¬ (false = true) by decide)] at H; exact H
        clear H
        have H := H1
        clear H1
        have H' := Aside0.mk H
        clear H
        go_wp2
        go_loopg [5] kj2 (fun kq v5 w' => ∃ (x5_2 : Int), v5 = .int .i64 x5_2 ∧ Aside0 (pannierref01_Right.l0 kq l0 x5_2 = some r) ∧ Aside0 (kq ≤ kj2) ∧ Drawn0 w w')
        case atStart => exact ⟨(a1), (by first | rfl | (simp; done) | (simp [*]; done)), H', ⟨Nat.le_refl _⟩, by repeat (first | exact Drawn0.refl _ | apply Drawn0.step)⟩
        case round =>
          clear H'
          try clear c2
          try clear p2
          try clear c4
          try clear c4b0
          try clear c5
          try clear c5b0
          try clear c6
          try clear p6
          try clear p2
          obtain ⟨x5_2, rfl, HA, HK2, ⟨m2, rfl⟩⟩ := hrel
          cases gk with
          | zero => exact absurd HA.out (by simp [pannierref01_Right.l0])
          | succ k2 =>
            have H := HA.out
            clear HA
            simp only [pannierref01_Right.l0] at H
            by_cases c7 : x5_2 < (wrap64 (8 * (l0.length : Int)))
            · rw [if_pos c7] at H
              have c7b0 : decide (x5_2 < (wrap64 (8 * (l0.length : Int)))) = true := decide_eq_true c7
              clear c7
              replace H := Option.bind_eq_some_iff.mp H
              obtain ⟨t340, A80, H⟩ := H
              replace H : (if t340 = 0 then (pannierref01_Right.l0 k2 l0 (wrap64 (x5_2 + 1))) else (some false)) = some r := H
              have A8 := Aside0.mk A80
              clear A80
              by_cases c9 : t340 = 0
              · rw [if_pos c9] at H
                have c9b0 : (t340 == 0) = true := beq_iff_eq.mpr c9
                have c9b1 : (t340 != 0) = false := bne_eq_false_iff_eq.mpr c9
                clear c9
                have H' := Aside0.mk H
                clear H
                go_wp2_with (first | ((with_reducible refine gate_callee (f := 73) rfl ?_); refine goesL_ (some 33) rfl rfl Try.func73 (by kernel_rfl) rfl #[.slice A0 l0.length c0, .int .i64 x5_2] rfl (by (try simp only [List.map_toArray, List.map_cons, List.map_nil]); first | done | rfl | (simp only [List.length_drop, List.length_take]; rfl)) ?_; (with_reducible refine (pannierref01_bit.calls _ _ l0 x5_2 t340 _ ?side1 ?side2 A8.out).mono ?_); (case side1 => repeat (first | exact HR0.out | (with_reducible refine Kd.C_alloc ?_ _) | (with_reducible refine Kd.C_drewN ?_ _) | (with_reducible refine Kd.C_drew ?_))); (case side2 => exact HC0.out); rintro e w' ⟨rfl, ⟨nd, rfl⟩⟩; refine ⟨_, rfl, ?_⟩))
                go_roundg k2
                case measure => have := HJ2.out; have := HK2.out; omega
                case rel => exact ⟨(wrap64 (x5_2 + 1)), (by first | rfl | (simp; done) | (simp [*]; done)), H', ⟨by have := HJ2.out; have := HK2.out; omega⟩, by repeat (first | exact Drawn0.refl _ | apply Drawn0.step)⟩
              · rw [if_neg c9] at H
                have c9b0 : (t340 == 0) = false := beq_eq_false_iff_ne.mpr c9
                have c9b1 : (t340 != 0) = true := bne_iff_ne.mpr c9
                obtain rfl := Option.some.inj H
                go_wp2_with (first | ((with_reducible refine gate_callee (f := 73) rfl ?_); refine goesL_ (some 33) rfl rfl Try.func73 (by kernel_rfl) rfl #[.slice A0 l0.length c0, .int .i64 x5_2] rfl (by (try simp only [List.map_toArray, List.map_cons, List.map_nil]); first | done | rfl | (simp only [List.length_drop, List.length_take]; rfl)) ?_; (with_reducible refine (pannierref01_bit.calls _ _ l0 x5_2 t340 _ ?side1 ?side2 A8.out).mono ?_); (case side1 => repeat (first | exact HR0.out | (with_reducible refine Kd.C_alloc ?_ _) | (with_reducible refine Kd.C_drewN ?_ _) | (with_reducible refine Kd.C_drew ?_))); (case side2 => exact HC0.out); rintro e w' ⟨rfl, ⟨nd, rfl⟩⟩; refine ⟨_, rfl, ?_⟩))
                go_ret
                exact ⟨by first | rfl | (simp; done) | (simp [*]; done), by repeat (first | exact Drawn0.refl _ | apply Drawn0.step)⟩
            · rw [if_neg c7] at H
              have c7b0 : decide (x5_2 < (wrap64 (8 * (l0.length : Int)))) = false := decide_eq_false c7
              clear c7
              obtain rfl := Option.some.inj H
              go_wp2
              go_ret
              exact ⟨by first | rfl | (simp; done) | (simp [*]; done), by repeat (first | exact Drawn0.refl _ | apply Drawn0.step)⟩

end Go.Proofs.Ytlhaofbncoijfaa.X
namespace Go.Proofs.Ytlhaofbncoijfaa.X
open Go.RowKit Go.Proofs.YtlhaofbncoijfaaW.PrintWords Go.Proofs.YtlhaofbncoijfaaW.PrintLast Go.Proofs.YtlhaofbncoijfaaW.PrintMore Go.Proofs.Ytlhaofbncoijfaa.HandF
attribute [local go_sem] max2_int min2_int max_two min_two max_three min_three max_four min_four   -- for this text's walks alone
set_option linter.unusedVariables false
set_option linter.unusedSimpArgs false

/-! ### bits_Take: function 75 -/
def bits_Take.j0 : Nat → List Int → Int → Int → Int → Bool → Option (Int × Int)
  | 0, _, _, _, _, _ => none
  | k + 1, x0, x1, x2, x3, x10 => if x10 = true then (some (0, 2)) else (if (wrap64 (x1 - x2)) < x3 then (some (0, 10)) else ((bits_take.f k x0 x2 x3).bind fun t525 => (some (t525, 0))))
def bits_Take.f (k : Nat) (l0 : List Int) (a1 : Int) (a2 : Int) (a3 : Int) : Option (Int × Int) := (bits_Right.f l0 a1).bind fun t524 => (if t524 = true then (if a3 < 0 then (bits_Take.j0 k l0 a1 a2 a3 true) else (if a3 > 64 then (bits_Take.j0 k l0 a1 a2 a3 true) else (if a2 < 0 then (bits_Take.j0 k l0 a1 a2 a3 true) else (bits_Take.j0 k l0 a1 a2 a3 (decide (a2 > a1)))))) else (bits_Take.j0 k l0 a1 a2 a3 true))
theorem bits_Take.mono_l : ∀ k, (∀ y0 y1 y2 y3 y4, LeO (bits_Take.j0 k y0 y1 y2 y3 y4) (bits_Take.j0 (k + 1) y0 y1 y2 y3 y4))
  | 0 => fun _ _ _ _ _ r h => by simp [bits_Take.j0] at h
  | k + 1 => by
    have ih0 := bits_Take.mono_l k
    · intro y0 y1 y2 y3 y4
      unfold bits_Take.j0
      repeat' first
      | (with_reducible exact ih0 _ _ _ _ _)
      | (with_reducible exact bits_take.mono _ _ _ _)
      | (with_reducible exact LeO.refl _)
      | (with_reducible exact LeO.none _)
      | (with_reducible refine LeO.ite ?_ ?_)
      | (with_reducible refine LeO.bind ?_ (fun _ => ?_))
      | exact ih0 _ _ _ _ _
      | exact bits_take.mono _ _ _ _
      | exact LeO.none _
      | refine LeO.ite ?_ ?_
      | refine LeO.bind ?_ (fun _ => ?_)
theorem bits_Take.mono : ∀ a0 a1 a2 a3 k, LeO (bits_Take.f k a0 a1 a2 a3) (bits_Take.f (k + 1) a0 a1 a2 a3) := by
  intro a0 a1 a2 a3 k
  have ih0 := bits_Take.mono_l k
  unfold bits_Take.f
  repeat' first
      | (with_reducible exact ih0 _ _ _ _ _)
      | (with_reducible exact bits_take.mono _ _ _ _)
      | (with_reducible exact LeO.refl _)
      | (with_reducible exact LeO.none _)
      | (with_reducible refine LeO.ite ?_ ?_)
      | (with_reducible refine LeO.bind ?_ (fun _ => ?_))
      | exact ih0 _ _ _ _ _
      | exact bits_take.mono _ _ _ _
      | exact LeO.none _
      | refine LeO.ite ?_ ?_
      | refine LeO.bind ?_ (fun _ => ?_)
set_option maxHeartbeats 8000000 in
set_option maxRecDepth 100000 in
theorem bits_Take.calls (k : Nat) (A0 : Option Addr) (c0 : Nat) (l0 : List Int) (a1 : Int) (a2 : Int) (a3 : Int) (r1 : Int) (r2 : Int) (w : World) (hr0 : Kd.C (Kd.int .u8) w A0 l0.length l0) (hc0 : l0.length ≤ c0) (h : bits_Take.f k l0 a1 a2 a3 = some (r1, r2)) :
    Calls Try.prog 75 #[.slice A0 l0.length c0, .int .i64 a1, .int .i64 a2, .int .i64 a3] w fun e w' => e = .returned (.tuple #[.int .u64 r1, .int .i64 r2]) ∧ Drawn0 w w' := by
  have HR0 := Aside0.mk hr0
  have HC0 := Aside0.mk hc0
  clear hr0 hc0
  have H : ((bits_Right.f l0 a1).bind fun t524 => (if t524 = true then (if a3 < 0 then (bits_Take.j0 k l0 a1 a2 a3 true) else (if a3 > 64 then (bits_Take.j0 k l0 a1 a2 a3 true) else (if a2 < 0 then (bits_Take.j0 k l0 a1 a2 a3 true) else (bits_Take.j0 k l0 a1 a2 a3 (decide (a2 > a1)))))) else (bits_Take.j0 k l0 a1 a2 a3 true))) = some (r1, r2) := h
  clear h
  have HC5 := Aside0.mk H
  clear H
  go_enter Try.func75, Try.ntmps75
  go_upto_region 1 with (fail)
  go_cut [10] (fun v10 wc => ∃ (kq : Nat) (x10_4 : Bool), v10 = .bool x10_4 ∧ Aside0 (bits_Take.j0 kq l0 a1 a2 a3 x10_4 = some (r1, r2)) ∧ Aside0 (kq ≤ k) ∧ Drawn0 w wc)
  case first =>
    have H := HC5.out
    clear HC5
    replace H := Option.bind_eq_some_iff.mp H
    obtain ⟨t524, A60, H⟩ := H
    replace H : (if t524 = true then (if a3 < 0 then (bits_Take.j0 k l0 a1 a2 a3 true) else (if a3 > 64 then (bits_Take.j0 k l0 a1 a2 a3 true) else (if a2 < 0 then (bits_Take.j0 k l0 a1 a2 a3 true) else (bits_Take.j0 k l0 a1 a2 a3 (decide (a2 > a1)))))) else (bits_Take.j0 k l0 a1 a2 a3 true)) = some (r1, r2) := H
    have A6 := Aside0.mk A60
    clear A60
    by_cases c7 : t524 = true
    · subst c7
      have H1 : (if a3 < 0 then (bits_Take.j0 k l0 a1 a2 a3 true) else (if a3 > 64 then (bits_Take.j0 k l0 a1 a2 a3 true) else (if a2 < 0 then (bits_Take.j0 k l0 a1 a2 a3 true) else (bits_Take.j0 k l0 a1 a2 a3 (decide (a2 > a1)))))) = some (r1, r2) := by rw [if_pos rfl] at H; exact H
      clear H
      have H := H1
      clear H1
      by_cases c8 : a3 < 0
      · rw [if_pos c8] at H
        have c8b0 : decide (a3 < 0) = true := decide_eq_true c8
        clear c8
        (first | rw [c8b0] | (simp only [i64_w, i32_w]; rw [c8b0]) | skip)
        have H' := Aside0.mk H
        clear H
        go_wp2_with (first | ((with_reducible refine gate_callee (f := 52) rfl ?_); refine goesL_ (some 13) rfl rfl Try.func52 (by kernel_rfl) rfl #[.slice A0 l0.length c0, .int .i64 a1] rfl (by (try simp only [List.map_toArray, List.map_cons, List.map_nil]); first | done | rfl | (simp only [List.length_drop, List.length_take]; rfl)) ?_; (with_reducible refine (bits_Right.calls _ _ l0 a1 true _ ?side1 ?side2 A6.out).mono ?_); (case side1 => repeat (first | exact HR0.out | (with_reducible refine Kd.C_alloc ?_ _) | (with_reducible refine Kd.C_drewN ?_ _) | (with_reducible refine Kd.C_drew ?_))); (case side2 => exact HC0.out); rintro e w' ⟨rfl, ⟨nd, rfl⟩⟩; refine ⟨_, rfl, ?_⟩))
        go_meet
        case rel => exact ⟨_, (true), (by first | rfl | (simp; done) | (simp [*]; done)), H', ⟨by first | omega | exact Nat.le_refl _⟩, by repeat (first | exact Drawn0.refl _ | apply Drawn0.step)⟩
      · rw [if_neg c8] at H
        have c8b0 : decide (a3 < 0) = false := decide_eq_false c8
        clear c8
        (first | rw [c8b0] | (simp only [i64_w, i32_w]; rw [c8b0]) | skip)
        by_cases c9 : a3 > 64
        · rw [if_pos c9] at H
          have c9b0 : decide (64 < a3) = true := decide_eq_true c9
          clear c9
          have H' := Aside0.mk H
          clear H
          go_wp2_with (first | ((with_reducible refine gate_callee (f := 52) rfl ?_); refine goesL_ (some 13) rfl rfl Try.func52 (by kernel_rfl) rfl #[.slice A0 l0.length c0, .int .i64 a1] rfl (by (try simp only [List.map_toArray, List.map_cons, List.map_nil]); first | done | rfl | (simp only [List.length_drop, List.length_take]; rfl)) ?_; (with_reducible refine (bits_Right.calls _ _ l0 a1 true _ ?side1 ?side2 A6.out).mono ?_); (case side1 => repeat (first | exact HR0.out | (with_reducible refine Kd.C_alloc ?_ _) | (with_reducible refine Kd.C_drewN ?_ _) | (with_reducible refine Kd.C_drew ?_))); (case side2 => exact HC0.out); rintro e w' ⟨rfl, ⟨nd, rfl⟩⟩; refine ⟨_, rfl, ?_⟩))
          go_meet
          case rel => exact ⟨_, (true), (by first | rfl | (simp; done) | (simp [*]; done)), H', ⟨by first | omega | exact Nat.le_refl _⟩, by repeat (first | exact Drawn0.refl _ | apply Drawn0.step)⟩
        · rw [if_neg c9] at H
          have c9b0 : decide (64 < a3) = false := decide_eq_false c9
          clear c9
          by_cases c10 : a2 < 0
          · rw [if_pos c10] at H
            have c10b0 : decide (a2 < 0) = true := decide_eq_true c10
            clear c10
            have H' := Aside0.mk H
            clear H
            go_wp2_with (first | ((with_reducible refine gate_callee (f := 52) rfl ?_); refine goesL_ (some 13) rfl rfl Try.func52 (by kernel_rfl) rfl #[.slice A0 l0.length c0, .int .i64 a1] rfl (by (try simp only [List.map_toArray, List.map_cons, List.map_nil]); first | done | rfl | (simp only [List.length_drop, List.length_take]; rfl)) ?_; (with_reducible refine (bits_Right.calls _ _ l0 a1 true _ ?side1 ?side2 A6.out).mono ?_); (case side1 => repeat (first | exact HR0.out | (with_reducible refine Kd.C_alloc ?_ _) | (with_reducible refine Kd.C_drewN ?_ _) | (with_reducible refine Kd.C_drew ?_))); (case side2 => exact HC0.out); rintro e w' ⟨rfl, ⟨nd, rfl⟩⟩; refine ⟨_, rfl, ?_⟩))
            go_meet
            case rel => exact ⟨_, (true), (by first | rfl | (simp; done) | (simp [*]; done)), H', ⟨by first | omega | exact Nat.le_refl _⟩, by repeat (first | exact Drawn0.refl _ | apply Drawn0.step)⟩
          · rw [if_neg c10] at H
            have c10b0 : decide (a2 < 0) = false := decide_eq_false c10
            clear c10
            have H' := Aside0.mk H
            clear H
            go_wp2_with (first | ((with_reducible refine gate_callee (f := 52) rfl ?_); refine goesL_ (some 13) rfl rfl Try.func52 (by kernel_rfl) rfl #[.slice A0 l0.length c0, .int .i64 a1] rfl (by (try simp only [List.map_toArray, List.map_cons, List.map_nil]); first | done | rfl | (simp only [List.length_drop, List.length_take]; rfl)) ?_; (with_reducible refine (bits_Right.calls _ _ l0 a1 true _ ?side1 ?side2 A6.out).mono ?_); (case side1 => repeat (first | exact HR0.out | (with_reducible refine Kd.C_alloc ?_ _) | (with_reducible refine Kd.C_drewN ?_ _) | (with_reducible refine Kd.C_drew ?_))); (case side2 => exact HC0.out); rintro e w' ⟨rfl, ⟨nd, rfl⟩⟩; refine ⟨_, rfl, ?_⟩))
            go_meet
            case rel => exact ⟨_, (decide (a2 > a1)), (by first | rfl | (simp; done) | (simp [*]; done)), H', ⟨by first | omega | exact Nat.le_refl _⟩, by repeat (first | exact Drawn0.refl _ | apply Drawn0.step)⟩
    · replace c7 := Bool.eq_false_iff.mpr c7
      subst c7
      have H1 : (bits_Take.j0 k l0 a1 a2 a3 true) = some (r1, r2) := by rw [if_neg (show ¬ (false = true) by decide)] at H; exact H
      clear H
      have H := H1
      clear H1
      have H' := Aside0.mk H
      clear H
      go_wp2_with (first | ((with_reducible refine gate_callee (f := 52) rfl ?_); refine goesL_ (some 13) rfl rfl Try.func52 (by kernel_rfl) rfl #[.slice A0 l0.length c0, .int .i64 a1] rfl (by (try simp only [List.map_toArray, List.map_cons, List.map_nil]); first | done | rfl | (simp only [List.length_drop, List.length_take]; rfl)) ?_; (with_reducible refine (bits_Right.calls _ _ l0 a1 false _ ?side1 ?side2 A6.out).mono ?_); (case side1 => repeat (first | exact HR0.out | (with_reducible refine Kd.C_alloc ?_ _) | (with_reducible refine Kd.C_drewN ?_ _) | (with_reducible refine Kd.C_drew ?_))); (case side2 => exact HC0.out); rintro e w' ⟨rfl, ⟨nd, rfl⟩⟩; refine ⟨_, rfl, ?_⟩))
      go_meet
      case rel => exact ⟨_, (true), (by first | rfl | (simp; done) | (simp [*]; done)), H', ⟨by first | omega | exact Nat.le_refl _⟩, by repeat (first | exact Drawn0.refl _ | apply Drawn0.step)⟩
  case rest =>
    clear HC5
    try clear c1
    try clear p2
    try clear c5
    try clear c7
    try clear c8
    try clear c8b0
    try clear c9
    try clear c9b0
    try clear c10
    try clear c10b0
    obtain ⟨kq, x10_4, rfl, HA, HJ4, ⟨mc4, rfl⟩⟩ := hcut
    cases kq with
    | zero => exact absurd HA.out (by simp [bits_Take.j0])
    | succ kj4 =>
      have H := HA.out
      clear HA
      simp only [bits_Take.j0] at H
      by_cases c11 : x10_4 = true
      · subst c11
        have H1 : (some (0, 2)) = some (r1, r2) := by rw [if_pos rfl] at H; exact H
        clear H
        have H := H1
        clear H1
        simp only [Option.some.injEq, Prod.mk.injEq] at H
        obtain ⟨rfl, rfl⟩ := H
        go_wp2
        go_ret2
        exact ⟨by first | rfl | (simp; done) | (simp [*]; done), by repeat (first | exact Drawn0.refl _ | apply Drawn0.step)⟩
      · replace c11 := Bool.eq_false_iff.mpr c11
        subst c11
        have H1 : (if (wrap64 (a1 - a2)) < a3 then (some (0, 10)) else ((bits_take.f kj4 l0 a2 a3).bind fun t525 => (some (t525, 0)))) = some (r1, r2) := by rw [if_neg (show ¬ (false = true) by decide)] at H; exact H
        clear H
        have H := H1
        clear H1
        by_cases c12 : (wrap64 (a1 - a2)) < a3
        · rw [if_pos c12] at H
          have c12b0 : decide ((wrap64 (a1 - a2)) < a3) = true := decide_eq_true c12
          clear c12
          simp only [Option.some.injEq, Prod.mk.injEq] at H
          obtain ⟨rfl, rfl⟩ := H
          go_wp2
          go_ret2
          exact ⟨by first | rfl | (simp; done) | (simp [*]; done), by repeat (first | exact Drawn0.refl _ | apply Drawn0.step)⟩
        · rw [if_neg c12] at H
          have c12b0 : decide ((wrap64 (a1 - a2)) < a3) = false := decide_eq_false c12
          clear c12
          replace H := Option.bind_eq_some_iff.mp H
          obtain ⟨t525, A130, H⟩ := H
          replace H : (some (t525, 0)) = some (r1, r2) := H
          have A13 := Aside0.mk A130
          clear A130
          simp only [Option.some.injEq, Prod.mk.injEq] at H
          obtain ⟨rfl, rfl⟩ := H
          go_wp2_with (first | ((with_reducible refine gate_callee (f := 82) rfl ?_); refine goesL_ (some 41) rfl rfl Try.func82 (by kernel_rfl) rfl #[.slice A0 l0.length c0, .int .i64 a2, .int .i64 a3] rfl (by (try simp only [List.map_toArray, List.map_cons, List.map_nil]); first | done | rfl | (simp only [List.length_drop, List.length_take]; rfl)) ?_; (with_reducible refine (bits_take.calls kj4 _ _ l0 a2 a3 t525 _ ?side1 ?side2 A13.out).mono ?_); (case side1 => repeat (first | exact HR0.out | (with_reducible refine Kd.C_alloc ?_ _) | (with_reducible refine Kd.C_drewN ?_ _) | (with_reducible refine Kd.C_drew ?_))); (case side2 => exact HC0.out); rintro e w' ⟨rfl, ⟨nd, rfl⟩⟩; refine ⟨_, rfl, ?_⟩))
          go_ret2
          exact ⟨by first | rfl | (simp; done) | (simp [*]; done), by repeat (first | exact Drawn0.refl _ | apply Drawn0.step)⟩

end Go.Proofs.Ytlhaofbncoijfaa.X
namespace Go.Proofs.Ytlhaofbncoijfaa.X
open Go.RowKit Go.Proofs.YtlhaofbncoijfaaW.PrintWords Go.Proofs.YtlhaofbncoijfaaW.PrintLast Go.Proofs.YtlhaofbncoijfaaW.PrintMore Go.Proofs.Ytlhaofbncoijfaa.HandF
attribute [local go_sem] max2_int min2_int max_two min_two max_three min_three max_four min_four   -- for this text's walks alone
set_option linter.unusedVariables false
set_option linter.unusedSimpArgs false

/-! ### pannierref01_Take: function 76 -/
mutual
def pannierref01_Take.j0 : Nat → List Int → Int → Int → Int → Bool → Option (Int × Int)
  | 0, _, _, _, _, _ => none
  | k + 1, x0, x1, x2, x3, x34 => if x34 = true then (some (0, 2)) else (if (wrap64 (x1 - x2)) < x3 then (some (0, 10)) else (pannierref01_Take.l0 k x0 x2 x3 0 0))
def pannierref01_Take.l0 : Nat → List Int → Int → Int → Int → Int → Option (Int × Int)
  | 0, _, _, _, _, _ => none
  | k + 1, x0, x2, x3, x11, x12 => if x12 < x3 then ((pannierref01_bit.f x0 (wrap64 (x2 + x12))).bind fun t555 => (pannierref01_Take.l0 k x0 x2 x3 (Go.bits .or .u64 (IntKind.u64.wrap (x11 * 2)) t555) (wrap64 (x12 + 1)))) else (some (x11, 0))
end
def pannierref01_Take.f (k : Nat) (l0 : List Int) (a1 : Int) (a2 : Int) (a3 : Int) : Option (Int × Int) := (pannierref01_Right.f k l0 a1).bind fun t554 => (if t554 = true then (if a3 < 0 then (pannierref01_Take.j0 k l0 a1 a2 a3 true) else (if a3 > 64 then (pannierref01_Take.j0 k l0 a1 a2 a3 true) else (if a2 < 0 then (pannierref01_Take.j0 k l0 a1 a2 a3 true) else (pannierref01_Take.j0 k l0 a1 a2 a3 (decide (a2 > a1)))))) else (pannierref01_Take.j0 k l0 a1 a2 a3 true))
theorem pannierref01_Take.mono_l : ∀ k, (∀ y0 y1 y2 y3 y4, LeO (pannierref01_Take.j0 k y0 y1 y2 y3 y4) (pannierref01_Take.j0 (k + 1) y0 y1 y2 y3 y4)) ∧ (∀ y0 y1 y2 y3 y4, LeO (pannierref01_Take.l0 k y0 y1 y2 y3 y4) (pannierref01_Take.l0 (k + 1) y0 y1 y2 y3 y4))
  | 0 => ⟨fun _ _ _ _ _ r h => by simp [pannierref01_Take.j0] at h, fun _ _ _ _ _ r h => by simp [pannierref01_Take.l0] at h⟩
  | k + 1 => by
    obtain ⟨ih0, ih1⟩ := pannierref01_Take.mono_l k
    refine ⟨?_, ?_⟩
    · intro y0 y1 y2 y3 y4
      unfold pannierref01_Take.j0
      repeat' first
      | (with_reducible exact ih0 _ _ _ _ _)
      | (with_reducible exact ih1 _ _ _ _ _)
      | (with_reducible exact pannierref01_Right.mono _ _ _)
      | (with_reducible exact LeO.refl _)
      | (with_reducible exact LeO.none _)
      | (with_reducible refine LeO.ite ?_ ?_)
      | (with_reducible refine LeO.bind ?_ (fun _ => ?_))
      | exact ih0 _ _ _ _ _
      | exact ih1 _ _ _ _ _
      | exact pannierref01_Right.mono _ _ _
      | exact LeO.none _
      | refine LeO.ite ?_ ?_
      | refine LeO.bind ?_ (fun _ => ?_)
    · intro y0 y1 y2 y3 y4
      unfold pannierref01_Take.l0
      repeat' first
      | (with_reducible exact ih0 _ _ _ _ _)
      | (with_reducible exact ih1 _ _ _ _ _)
      | (with_reducible exact pannierref01_Right.mono _ _ _)
      | (with_reducible exact LeO.refl _)
      | (with_reducible exact LeO.none _)
      | (with_reducible refine LeO.ite ?_ ?_)
      | (with_reducible refine LeO.bind ?_ (fun _ => ?_))
      | exact ih0 _ _ _ _ _
      | exact ih1 _ _ _ _ _
      | exact pannierref01_Right.mono _ _ _
      | exact LeO.none _
      | refine LeO.ite ?_ ?_
      | refine LeO.bind ?_ (fun _ => ?_)
theorem pannierref01_Take.mono : ∀ a0 a1 a2 a3 k, LeO (pannierref01_Take.f k a0 a1 a2 a3) (pannierref01_Take.f (k + 1) a0 a1 a2 a3) := by
  intro a0 a1 a2 a3 k
  obtain ⟨ih0, ih1⟩ := pannierref01_Take.mono_l k
  unfold pannierref01_Take.f
  repeat' first
      | (with_reducible exact ih0 _ _ _ _ _)
      | (with_reducible exact ih1 _ _ _ _ _)
      | (with_reducible exact pannierref01_Right.mono _ _ _)
      | (with_reducible exact LeO.refl _)
      | (with_reducible exact LeO.none _)
      | (with_reducible refine LeO.ite ?_ ?_)
      | (with_reducible refine LeO.bind ?_ (fun _ => ?_))
      | exact ih0 _ _ _ _ _
      | exact ih1 _ _ _ _ _
      | exact pannierref01_Right.mono _ _ _
      | exact LeO.none _
      | refine LeO.ite ?_ ?_
      | refine LeO.bind ?_ (fun _ => ?_)
set_option maxHeartbeats 8000000 in
set_option maxRecDepth 100000 in
theorem pannierref01_Take.calls (k : Nat) (A0 : Option Addr) (c0 : Nat) (l0 : List Int) (a1 : Int) (a2 : Int) (a3 : Int) (r1 : Int) (r2 : Int) (w : World) (hr0 : Kd.C (Kd.int .u8) w A0 l0.length l0) (hc0 : l0.length ≤ c0) (h : pannierref01_Take.f k l0 a1 a2 a3 = some (r1, r2)) :
    Calls Try.prog 76 #[.slice A0 l0.length c0, .int .i64 a1, .int .i64 a2, .int .i64 a3] w fun e w' => e = .returned (.tuple #[.int .u64 r1, .int .i64 r2]) ∧ Drawn0 w w' := by
  have HR0 := Aside0.mk hr0
  have HC0 := Aside0.mk hc0
  clear hr0 hc0
  have H : ((pannierref01_Right.f k l0 a1).bind fun t554 => (if t554 = true then (if a3 < 0 then (pannierref01_Take.j0 k l0 a1 a2 a3 true) else (if a3 > 64 then (pannierref01_Take.j0 k l0 a1 a2 a3 true) else (if a2 < 0 then (pannierref01_Take.j0 k l0 a1 a2 a3 true) else (pannierref01_Take.j0 k l0 a1 a2 a3 (decide (a2 > a1)))))) else (pannierref01_Take.j0 k l0 a1 a2 a3 true))) = some (r1, r2) := h
  clear h
  replace H := Option.bind_eq_some_iff.mp H
  obtain ⟨t554, A50, H⟩ := H
  replace H : (if t554 = true then (if a3 < 0 then (pannierref01_Take.j0 k l0 a1 a2 a3 true) else (if a3 > 64 then (pannierref01_Take.j0 k l0 a1 a2 a3 true) else (if a2 < 0 then (pannierref01_Take.j0 k l0 a1 a2 a3 true) else (pannierref01_Take.j0 k l0 a1 a2 a3 (decide (a2 > a1)))))) else (pannierref01_Take.j0 k l0 a1 a2 a3 true)) = some (r1, r2) := H
  have A5 := Aside0.mk A50
  clear A50
  have HC6 := Aside0.mk H
  clear H
  go_enter Try.func76, Try.ntmps76
  go_upto_region 2 with (first | ((with_reducible refine gate_callee (f := 56) rfl ?_); refine goesL_ (some 15) rfl rfl Try.func56 (by kernel_rfl) rfl #[.slice A0 l0.length c0, .int .i64 a1] rfl (by (try simp only [List.map_toArray, List.map_cons, List.map_nil]); first | done | rfl | (simp only [List.length_drop, List.length_take]; rfl)) ?_; (with_reducible refine (pannierref01_Right.calls k _ _ l0 a1 t554 _ ?side1 ?side2 A5.out).mono ?_); (case side1 => repeat (first | exact HR0.out | (with_reducible refine Kd.C_alloc ?_ _) | (with_reducible refine Kd.C_drewN ?_ _) | (with_reducible refine Kd.C_drew ?_))); (case side2 => exact HC0.out); rintro e w' ⟨rfl, ⟨nd, rfl⟩⟩; refine ⟨_, rfl, ?_⟩))
  (try simp only [Act.put, List.setIfInBounds_toArray, List.set_cons_zero, List.set_cons_succ])
  go_cut [34] (fun v34 wc => ∃ (kq : Nat) (x34_5 : Bool), v34 = .bool x34_5 ∧ Aside0 (pannierref01_Take.j0 kq l0 a1 a2 a3 x34_5 = some (r1, r2)) ∧ Aside0 (kq ≤ k) ∧ Drawn0 w wc)
  case first =>
    have H := HC6.out
    clear HC6
    by_cases c7 : t554 = true
    · subst c7
      have H1 : (if a3 < 0 then (pannierref01_Take.j0 k l0 a1 a2 a3 true) else (if a3 > 64 then (pannierref01_Take.j0 k l0 a1 a2 a3 true) else (if a2 < 0 then (pannierref01_Take.j0 k l0 a1 a2 a3 true) else (pannierref01_Take.j0 k l0 a1 a2 a3 (decide (a2 > a1)))))) = some (r1, r2) := by rw [if_pos rfl] at H; exact H
      clear H
      have H := H1
      clear H1
      by_cases c8 : a3 < 0
      · rw [if_pos c8] at H
        have c8b0 : decide (a3 < 0) = true := decide_eq_true c8
        clear c8
        (first | rw [c8b0] | (simp only [i64_w, i32_w]; rw [c8b0]) | skip)
        have H' := Aside0.mk H
        clear H
        go_wp2
        go_meet
        case rel => exact ⟨_, (true), (by first | rfl | (simp; done) | (simp [*]; done)), H', ⟨by first | omega | exact Nat.le_refl _⟩, by repeat (first | exact Drawn0.refl _ | apply Drawn0.step)⟩
      · rw [if_neg c8] at H
        have c8b0 : decide (a3 < 0) = false := decide_eq_false c8
        clear c8
        (first | rw [c8b0] | (simp only [i64_w, i32_w]; rw [c8b0]) | skip)
        by_cases c9 : a3 > 64
        · rw [if_pos c9] at H
          have c9b0 : decide (64 < a3) = true := decide_eq_true c9
          clear c9
          have H' := Aside0.mk H
          clear H
          go_wp2
          go_meet
          case rel => exact ⟨_, (true), (by first | rfl | (simp; done) | (simp [*]; done)), H', ⟨by first | omega | exact Nat.le_refl _⟩, by repeat (first | exact Drawn0.refl _ | apply Drawn0.step)⟩
        · rw [if_neg c9] at H
          have c9b0 : decide (64 < a3) = false := decide_eq_false c9
          clear c9
          by_cases c10 : a2 < 0
          · rw [if_pos c10] at H
            have c10b0 : decide (a2 < 0) = true := decide_eq_true c10
            clear c10
            have H' := Aside0.mk H
            clear H
            go_wp2
            go_meet
            case rel => exact ⟨_, (true), (by first | rfl | (simp; done) | (simp [*]; done)), H', ⟨by first | omega | exact Nat.le_refl _⟩, by repeat (first | exact Drawn0.refl _ | apply Drawn0.step)⟩
          · rw [if_neg c10] at H
            have c10b0 : decide (a2 < 0) = false := decide_eq_false c10
            clear c10
            have H' := Aside0.mk H
            clear H
            go_wp2
            go_meet
            case rel => exact ⟨_, (decide (a2 > a1)), (by first | rfl | (simp; done) | (simp [*]; done)), H', ⟨by first | omega | exact Nat.le_refl _⟩, by repeat (first | exact Drawn0.refl _ | apply Drawn0.step)⟩
    · replace c7 := Bool.eq_false_iff.mpr c7
      subst c7
      have H1 : (pannierref01_Take.j0 k l0 a1 a2 a3 true) = some (r1, r2) := by rw [if_neg (show ¬ (false = true) by decide)] at H; exact H
      clear H
      have H := H1
      clear H1
      have H' := Aside0.mk H
      clear H
      go_wp2
      go_meet
      case rel => exact ⟨_, (true), (by first | rfl | (simp; done) | (simp [*]; done)), H', ⟨by first | omega | exact Nat.le_refl _⟩, by repeat (first | exact Drawn0.refl _ | apply Drawn0.step)⟩
  case rest =>
    clear HC6
    try clear c1
    try clear p2
    try clear c5
    try clear c7
    try clear c8
    try clear c8b0
    try clear c9
    try clear c9b0
    try clear c10
    try clear c10b0
    obtain ⟨kq, x34_5, rfl, HA, HJ5, ⟨mc5, rfl⟩⟩ := hcut
    cases kq with
    | zero => exact absurd HA.out (by simp [pannierref01_Take.j0])
    | succ kj5 =>
      have H := HA.out
      clear HA
      simp only [pannierref01_Take.j0] at H
      by_cases c11 : x34_5 = true
      · subst c11
        have H1 : (some (0, 2)) = some (r1, r2) := by rw [if_pos rfl] at H; exact H
        clear H
        have H := H1
        clear H1
        simp only [Option.some.injEq, Prod.mk.injEq] at H
        obtain ⟨rfl, rfl⟩ := H
        go_wp2
        go_ret2
        exact ⟨by first | rfl | (simp; done) | (simp [*]; done), by repeat (first | exact Drawn0.refl _ | apply Drawn0.step)⟩
      · replace c11 := Bool.eq_false_iff.mpr c11
        subst c11
        have H1 : (if (wrap64 (a1 - a2)) < a3 then (some (0, 10)) else (pannierref01_Take.l0 kj5 l0 a2 a3 0 0)) = some (r1, r2) := by rw [if_neg (show ¬ (false = true) by decide)] at H; exact H
        clear H
        have H := H1
        clear H1
        by_cases c12 : (wrap64 (a1 - a2)) < a3
        · rw [if_pos c12] at H
          have c12b0 : decide ((wrap64 (a1 - a2)) < a3) = true := decide_eq_true c12
          clear c12
          simp only [Option.some.injEq, Prod.mk.injEq] at H
          obtain ⟨rfl, rfl⟩ := H
          go_wp2
          go_ret2
          exact ⟨by first | rfl | (simp; done) | (simp [*]; done), by repeat (first | exact Drawn0.refl _ | apply Drawn0.step)⟩
        · rw [if_neg c12] at H
          have c12b0 : decide ((wrap64 (a1 - a2)) < a3) = false := decide_eq_false c12
          clear c12
          have H' := Aside0.mk H
          clear H
          go_wp2
          go_loopg [11, 12] kj5 (fun kq v11 v12 w' => ∃ (x11_2 : Int) (x12_2 : Int), v11 = .int .u64 x11_2 ∧ v12 = .int .i64 x12_2 ∧ Aside0 (pannierref01_Take.l0 kq l0 a2 a3 x11_2 x12_2 = some (r1, r2)) ∧ Aside0 (kq ≤ kj5) ∧ Drawn0 w w')
          case atStart => exact ⟨(0), (0), (by first | rfl | (simp; done) | (simp [*]; done)), (by first | rfl | (simp; done) | (simp [*]; done)), H', ⟨Nat.le_refl _⟩, by repeat (first | exact Drawn0.refl _ | apply Drawn0.step)⟩
          case round =>
            clear H'
            try clear c1
            try clear p2
            try clear c5
            try clear p6
            try clear c7
            try clear c8
            try clear c8b0
            try clear c9
            try clear c9b0
            try clear c10
            try clear c10b0
            try clear c11
            try clear c12
            try clear c12b0
            try clear p2
            obtain ⟨x11_2, x12_2, rfl, rfl, HA, HK2, ⟨m2, rfl⟩⟩ := hrel
            cases gk with
            | zero => exact absurd HA.out (by simp [pannierref01_Take.l0])
            | succ k2 =>
              have H := HA.out
              clear HA
              simp only [pannierref01_Take.l0] at H
              by_cases c13 : x12_2 < a3
              · rw [if_pos c13] at H
                have c13b0 : decide (x12_2 < a3) = true := decide_eq_true c13
                clear c13
                replace H := Option.bind_eq_some_iff.mp H
                obtain ⟨t555, A140, H⟩ := H
                replace H : (pannierref01_Take.l0 k2 l0 a2 a3 (Go.bits .or .u64 (IntKind.u64.wrap (x11_2 * 2)) t555) (wrap64 (x12_2 + 1))) = some (r1, r2) := H
                have A14 := Aside0.mk A140
                clear A140
                have H' := Aside0.mk H
                clear H
                go_wp2_with (first | ((with_reducible refine gate_callee (f := 73) rfl ?_); refine goesL_ (some 51) rfl rfl Try.func73 (by kernel_rfl) rfl #[.slice A0 l0.length c0, .int .i64 (wrap64 (a2 + x12_2))] rfl (by (try simp only [List.map_toArray, List.map_cons, List.map_nil]); first | done | rfl | (simp only [List.length_drop, List.length_take]; rfl)) ?_; (with_reducible refine (pannierref01_bit.calls _ _ l0 (wrap64 (a2 + x12_2)) t555 _ ?side1 ?side2 A14.out).mono ?_); (case side1 => repeat (first | exact HR0.out | (with_reducible refine Kd.C_alloc ?_ _) | (with_reducible refine Kd.C_drewN ?_ _) | (with_reducible refine Kd.C_drew ?_))); (case side2 => exact HC0.out); rintro e w' ⟨rfl, ⟨nd, rfl⟩⟩; refine ⟨_, rfl, ?_⟩))
                go_roundg k2
                case measure => have := HJ5.out; have := HK2.out; omega
                case rel => exact ⟨(Go.bits .or .u64 (IntKind.u64.wrap (x11_2 * 2)) t555), (wrap64 (x12_2 + 1)), (by first | rfl | (simp; done) | (simp [*]; done)), (by first | rfl | (simp; done) | (simp [*]; done)), H', ⟨by have := HJ5.out; have := HK2.out; omega⟩, by repeat (first | exact Drawn0.refl _ | apply Drawn0.step)⟩
              · rw [if_neg c13] at H
                have c13b0 : decide (x12_2 < a3) = false := decide_eq_false c13
                clear c13
                simp only [Option.some.injEq, Prod.mk.injEq] at H
                obtain ⟨rfl, rfl⟩ := H
                go_wp2
                go_ret2
                exact ⟨by first | rfl | (simp; done) | (simp [*]; done), by repeat (first | exact Drawn0.refl _ | apply Drawn0.step)⟩

end Go.Proofs.Ytlhaofbncoijfaa.X
namespace Go.Proofs.Ytlhaofbncoijfaa.Math
set_option linter.unusedVariables false
set_option linter.unusedSimpArgs false
open Go.RowKit Go.Proofs.Ytlhaofbncoijfaa.X
open Go.Proofs.YtlhaofbncoijfaaW.PrintWords Go.Proofs.YtlhaofbncoijfaaW.PrintLast Go.Proofs.YtlhaofbncoijfaaW.PrintMore

/-- Is a row of n bits? -/
def rightB (l : List Int) (n : Int) : Bool := decide (0 ≤ n) && decide ((n + 7) / 8 = (l.length : Int)) && (List.range (8 * l.length)).all fun i => decide ((i : Int) < n) || bitN l i == 0
theorem rightB_iff {l : List Int} {n : Int} : rightB l n = true ↔ 0 ≤ n ∧ (n + 7) / 8 = (l.length : Int) ∧ ∀ i : Nat, i < 8 * l.length → n ≤ i → bitN l i = 0 := by
  unfold rightB
  simp only [Bool.and_eq_true, decide_eq_true_eq, List.all_eq_true, List.mem_range, Bool.or_eq_true, beq_iff_eq, and_assoc]
  refine ⟨fun ⟨h1, h2, h3⟩ => ⟨h1, h2, fun i hi hn => (h3 i hi).resolve_left (by omega)⟩, fun ⟨h1, h2, h3⟩ => ⟨h1, h2, fun i hi => ?_⟩⟩
  rcases Int.lt_or_le (i : Int) n with h | h
  · exact .inl h
  · exact .inr (h3 i hi h)

theorem tail_bits : ∀ x : Fin 256, ∀ r : Fin 8, (x.val * 2 ^ r.val % 256 == 0) = (List.range 8).all fun j => decide (j < r.val) || x.val / 2 ^ (7 - j) % 2 == 0 := by decide +kernel

theorem right_some {l : List Int} {n : Int} (hb : Bytes l) (hl : l.length ≤ 140737488355328) (h0 : -9223372036854775808 ≤ n) (h1 : n ≤ 9223372036854775807) : bits_Right.f l n = some (rightB l n) := by
  unfold bits_Right.f
  by_cases c1 : n < 0
  · rw [if_pos c1]
    have : rightB l n = false := by
      cases h : rightB l n
      · rfl
      · have := (rightB_iff.1 h).1; omega
    rw [this]
  · rw [if_neg c1, wrap_small (x := 8 * (l.length : Int)) (by omega) (by omega)]
    by_cases c2 : n > 8 * (l.length : Int)
    · rw [if_pos c2]
      have : rightB l n = false := by
        cases h : rightB l n
        · rfl
        · have := (rightB_iff.1 h).2.1; omega
      rw [this]
    · rw [if_neg c2, wrap_small (x := n + 7) (by omega) (by omega), Int.tdiv_eq_ediv_of_nonneg (by omega), Int.tmod_eq_emod_of_nonneg (by omega), wrap_small (x := (n + 7) / 8) (by omega) (by omega)]
      by_cases c3 : (n + 7) / 8 = (l.length : Int)
      · rw [if_pos c3]
        by_cases c4 : n % 8 = 0
        · rw [if_pos c4]
          have : rightB l n = true := rightB_iff.2 ⟨by omega, c3, fun i hi hn => by omega⟩
          rw [this]
        · rw [if_neg c4, wrap_small (x := (l.length : Int) - 1) (by omega) (by omega), if_pos (by omega), if_pos (by omega), if_pos (by omega)]
          obtain ⟨p, hp⟩ : ∃ p : Nat, l.length = p + 1 := ⟨l.length - 1, by omega⟩
          obtain ⟨m, rfl⟩ := Int.eq_ofNat_of_zero_le (show 0 ≤ n by omega)
          rw [show (l.length : Int) - 1 = (p : Int) by omega]
          obtain ⟨b0, b1⟩ := rd_byte hb (p : Int)
          obtain ⟨x, hx⟩ := Int.eq_ofNat_of_zero_le b0
          rw [hx] at b1 ⊢
          have hs : shl .u8 (x : Int) ((m : Int) % 8) = ((x * 2 ^ (m % 8) % 256 : Nat) : Int) := by
            unfold shl
            rw [show ((m : Int) % 8).toNat = m % 8 by omega, Nat.min_eq_left (by show _ ≤ 8; omega), IntKind.wrap_u8]
            simp
          have hbit : ∀ j, j < 8 → bitN l (8 * p + j) = x / 2 ^ (7 - j) % 2 := fun j hj => by
            unfold bitN
            rw [show (8 * p + j) / 8 = p by omega, show (8 * p + j) % 8 = j by omega, hx, Int.toNat_natCast]
          have ht := tail_bits ⟨x, by omega⟩ ⟨m % 8, by omega⟩
          simp only at ht
          rw [hs]
          have e1 : (((x * 2 ^ (m % 8) % 256 : Nat) : Int) == 0) = (x * 2 ^ (m % 8) % 256 == 0) := by
            rw [Bool.eq_iff_iff]; simp only [beq_iff_eq]; omega
          rw [e1, ht]
          congr 1
          rw [Bool.eq_iff_iff, rightB_iff]
          simp only [List.all_eq_true, List.mem_range, Bool.or_eq_true, decide_eq_true_eq, beq_iff_eq]
          constructor
          · intro h
            refine ⟨by omega, c3, fun i hi hn => ?_⟩
            have hi2 : i = 8 * p + (i - 8 * p) := by omega
            rw [hi2, hbit _ (by omega)]
            exact (h (i - 8 * p) (by omega)).resolve_left (by omega)
          · intro h j hj
            rcases Nat.lt_or_ge j (m % 8) with h' | h'
            · exact .inl h'
            · refine .inr ?_
              rw [← hbit j hj]
              exact h.2.2 _ (by omega) (by omega)
      · rw [if_neg c3]
        have : rightB l n = false := by
          cases h : rightB l n
          · rfl
          · have := (rightB_iff.1 h).2.1; omega
        rw [this]

theorem bit_some {l : List Int} (hb : Bytes l) (hl : l.length ≤ 140737488355328) (i : Nat) (hi : i < 8 * l.length) : pannierref01_bit.f l (i : Int) = some ((bitN l i : Nat) : Int) := by
  unfold pannierref01_bit.f
  have h1 : (Int.tdiv (i : Int) 8) = ((i / 8 : Nat) : Int) := by rw [Int.tdiv_eq_ediv_of_nonneg (by omega)]; omega
  have hm : (7 - Int.tmod (i : Int) 8) = ((7 - i % 8 : Nat) : Int) := by rw [Int.tmod_eq_emod_of_nonneg (by omega)]; omega
  rw [h1, hm, wrap_small (x := ((i / 8 : Nat) : Int)) (by omega) (by omega), wrap_small (x := ((7 - i % 8 : Nat) : Int)) (by omega) (by omega), if_pos (by omega), if_pos (by omega), if_pos (by omega)]
  congr 1
  obtain ⟨h0, h2⟩ := rd_byte hb ((i / 8 : Nat) : Int)
  unfold shr bitN
  obtain ⟨x, hx⟩ := Int.eq_ofNat_of_zero_le h0
  rw [hx] at h2 ⊢
  rw [Int.toNat_natCast, Int.toNat_natCast, Nat.min_eq_left (by show _ ≤ 8; omega)]
  have e : ((x : Int) / 2 ^ (7 - i % 8)) = ((x / 2 ^ (7 - i % 8) : Nat) : Int) := by simp
  have hlt : x / 2 ^ (7 - i % 8) < 256 := Nat.lt_of_le_of_lt (Nat.div_le_self _ _) (by omega)
  rw [e]
  generalize x / 2 ^ (7 - i % 8) = y at hlt
  have e2 : IntKind.u64.wrap (y : Int) = (y : Int) := by rw [IntKind.wrap_u64]; omega
  rw [e2, show (1 : Int) = ((1 : Nat) : Int) from rfl, u64_and_nat _ _ (by omega) (by decide), nat_mask1]

theorem refright_loop {l : List Int} (hb : Bytes l) (hl : l.length ≤ 140737488355328) (d : Nat) : ∀ i : Nat, i + d = 8 * l.length →
    pannierref01_Right.l0 (d + 1) l (i : Int) = some ((List.range (8 * l.length)).all fun j => decide (j < i) || bitN l j == 0) := by
  induction d with
  | zero =>
    intro i hi
    unfold pannierref01_Right.l0
    rw [wrap_small (by omega) (by omega), if_neg (by omega)]
    congr 1
    symm
    simp only [List.all_eq_true, List.mem_range, Bool.or_eq_true, decide_eq_true_eq]
    exact fun j hj => .inl (by omega)
  | succ d ih =>
    intro i hi
    unfold pannierref01_Right.l0
    rw [wrap_small (x := 8 * (l.length : Int)) (by omega) (by omega), if_pos (by omega), bit_some hb hl i (by omega)]
    simp only [Option.bind_some]
    by_cases hz : bitN l i = 0
    · rw [if_pos (by omega), wrap_small (by omega) (by omega)]
      have := ih (i + 1) (by omega)
      rw [show (i : Int) + 1 = ((i + 1 : Nat) : Int) by omega, this]
      congr 1
      rw [Bool.eq_iff_iff]
      simp only [List.all_eq_true, List.mem_range, Bool.or_eq_true, decide_eq_true_eq, beq_iff_eq]
      refine ⟨fun h j hj => ?_, fun h j hj => ?_⟩
      · rcases h j hj with h' | h'
        · rcases Nat.lt_or_ge j i with h2 | h2
          · exact .inl h2
          · obtain rfl : j = i := by omega
            exact .inr hz
        · exact .inr h'
      · rcases h j hj with h' | h'
        · exact .inl (by omega)
        · exact .inr h'
    · rw [if_neg (by omega)]
      congr 1
      symm
      rw [Bool.eq_false_iff]
      intro h
      have := List.all_eq_true.1 h i (List.mem_range.2 (by omega))
      simp [hz] at this

theorem refright_some {l : List Int} {n : Int} (hb : Bytes l) (hl : l.length ≤ 140737488355328) (h0 : -9223372036854775808 ≤ n) (h1 : n ≤ 9223372036854775807) : pannierref01_Right.f 10 l n = some (rightB l n) := by
  unfold pannierref01_Right.f
  by_cases c1 : n < 0
  · rw [if_pos c1]
    have : rightB l n = false := by
      cases h : rightB l n
      · rfl
      · have := (rightB_iff.1 h).1; omega
    rw [this]
    simp [pannierref01_Right.j0]
  · rw [if_neg c1, wrap_small (x := 8 * (l.length : Int)) (by omega) (by omega)]
    by_cases c2 : n > 8 * (l.length : Int)
    · rw [if_pos c2]
      have : rightB l n = false := by
        cases h : rightB l n
        · rfl
        · have := (rightB_iff.1 h).2.1; omega
      rw [this]
      simp [pannierref01_Right.j0]
    · rw [if_neg c2, wrap_small (x := 8 * (l.length : Int) - n) (by omega) (by omega)]
      by_cases c3 : 8 * (l.length : Int) - n ≥ 8
      · rw [decide_eq_true c3]
        have : rightB l n = false := by
          cases h : rightB l n
          · rfl
          · have := (rightB_iff.1 h).2.1; omega
        rw [this]
        simp [pannierref01_Right.j0]
      · rw [decide_eq_false c3]
        obtain ⟨m, rfl⟩ := Int.eq_ofNat_of_zero_le (show 0 ≤ n by omega)
        have hloop := refright_loop hb hl (8 * l.length - m) m (by omega)
        have hmono : ∀ d, d ≤ 8 → pannierref01_Right.l0 (d + 1) l (m : Int) = some ((List.range (8 * l.length)).all fun j => decide (j < m) || bitN l j == 0) → pannierref01_Right.l0 9 l (m : Int) = some ((List.range (8 * l.length)).all fun j => decide (j < m) || bitN l j == 0) := by
          intro d hd h
          have : ∀ e, pannierref01_Right.l0 (d + 1 + e) l (m : Int) = some ((List.range (8 * l.length)).all fun j => decide (j < m) || bitN l j == 0) := by
            intro e
            induction e with
            | zero => exact h
            | succ e ih => exact (pannierref01_Right.mono_l _).2 _ _ _ ih
          have := this (8 - d)
          rwa [show d + 1 + (8 - d) = 9 by omega] at this
        have h9 := hmono _ (by omega) hloop
        show pannierref01_Right.j0 10 l (m : Int) false = _
        simp only [pannierref01_Right.j0]
        rw [if_neg (by decide), h9]
        congr 1
        rw [Bool.eq_iff_iff, rightB_iff]
        simp only [List.all_eq_true, List.mem_range, Bool.or_eq_true, decide_eq_true_eq, beq_iff_eq]
        refine ⟨fun h => ⟨by omega, by omega, fun i hi hn => (h i hi).resolve_left (by omega)⟩, fun h i hi => ?_⟩
        rcases Nat.lt_or_ge i m with h' | h'
        · exact .inl h'
        · exact .inr (h.2.2 i hi (by omega))
end Go.Proofs.Ytlhaofbncoijfaa.Math
namespace Go.Proofs.Ytlhaofbncoijfaa.Math
set_option linter.unusedVariables false
set_option linter.unusedSimpArgs false
open Go.RowKit Go.Proofs.Ytlhaofbncoijfaa.X Go.Proofs.Ytlhaofbncoijfaa.HandF
open Go.Proofs.YtlhaofbncoijfaaW.PrintWords Go.Proofs.YtlhaofbncoijfaaW.PrintLast Go.Proofs.YtlhaofbncoijfaaW.PrintMore

/-- From some count of rounds on, it tells r. -/
def Ev {α : Type} (f : Nat → Option α) (r : α) : Prop := ∃ k0, ∀ k, k0 ≤ k → f k = some r
theorem Ev.of {α : Type} {f : Nat → Option α} {r : α} (hm : ∀ k, LeO (f k) (f (k + 1))) {k : Nat} (h : f k = some r) : Ev f r := by
  refine ⟨k, fun j hj => ?_⟩
  obtain ⟨e, rfl⟩ : ∃ e, j = k + e := ⟨j - k, by omega⟩
  clear hj
  induction e with
  | zero => exact h
  | succ e ih => exact hm _ _ ih


theorem bytes_of_wf {l : List Int} (h : ∀ x ∈ l, (Lit.int .u8 x).wf = true) : Bytes l := by
  intro x hx
  have := h x hx
  rw [Lit.wf_int_iff] at this
  simp [IntKind.min, IntKind.max, IntKind.signed, IntKind.bits] at this
  omega
theorem i64_of_wf {x : Int} (h : (Lit.int .i64 x).wf = true) : -9223372036854775808 ≤ x ∧ x ≤ 9223372036854775807 := by
  rw [Lit.wf_int_iff] at h
  simp [IntKind.min, IntKind.max, IntKind.signed, IntKind.bits] at h
  omega
theorem u64_of_wf {x : Int} (h : (Lit.int .u64 x).wf = true) : 0 ≤ x ∧ x < 18446744073709551616 := by
  rw [Lit.wf_int_iff] at h
  simp [IntKind.min, IntKind.max, IntKind.signed, IntKind.bits] at h
  omega

/-- What Take tells. -/
def takeRes (l : List Int) (n p w : Int) : Int × Int :=
  if rightB l n = true ∧ 0 ≤ w ∧ w ≤ 64 ∧ 0 ≤ p ∧ p ≤ n then (if n - p < w then (0, 10) else (((takeN l p.toNat w.toNat : Nat) : Int), 0)) else (0, 2)

theorem take_res {l : List Int} {n p w : Int} (hb : Bytes l) (hl : l.length ≤ 140737488355328) (h0 : -9223372036854775808 ≤ n) (h1 : n ≤ 9223372036854775807) :
    Ev (fun k => bits_Take.f k l n p w) (takeRes l n p w) := by
  refine Ev.of (k := 67) (fun k => bits_Take.mono _ _ _ _ k) ?_
  unfold bits_Take.f takeRes
  rw [right_some hb hl h0 h1]
  simp only [Option.bind_some]
  cases hr : rightB l n with
  | false => simp [bits_Take.j0]
  | true =>
    obtain ⟨r0, r1, r2⟩ := rightB_iff.1 hr
    rw [if_pos rfl]
    by_cases c1 : w < 0
    · rw [if_pos c1, if_neg (by omega)]; simp [bits_Take.j0]
    rw [if_neg c1]
    by_cases c2 : w > 64
    · rw [if_pos c2, if_neg (by omega)]; simp [bits_Take.j0]
    rw [if_neg c2]
    by_cases c3 : p < 0
    · rw [if_pos c3, if_neg (by omega)]; simp [bits_Take.j0]
    rw [if_neg c3]
    by_cases c4 : p > n
    · rw [decide_eq_true c4, if_neg (by omega)]; simp [bits_Take.j0]
    rw [decide_eq_false c4, if_pos ⟨rfl, by omega, by omega, by omega, by omega⟩]
    simp only [bits_Take.j0]
    rw [if_neg (by decide), wrap_small (x := n - p) (by omega) (by omega)]
    by_cases c5 : n - p < w
    · rw [if_pos c5, if_pos c5]
    rw [if_neg c5, if_neg c5]
    obtain ⟨W, rfl⟩ := Int.eq_ofNat_of_zero_le (show 0 ≤ w by omega)
    obtain ⟨q, rfl⟩ := Int.eq_ofNat_of_zero_le (show 0 ≤ p by omega)
    have ht := take_some hb hl q W (by omega) (by omega)
    have he : Ev (fun k => bits_take.f k l (q : Int) (W : Int)) _ := Ev.of (fun k => bits_take.mono _ _ _ k) ht
    have h66 : bits_take.f 66 l (q : Int) (W : Int) = some ((takeN l q W : Nat) : Int) := by
      have : ∀ e, bits_take.f (W + 1 + e) l (q : Int) (W : Int) = some ((takeN l q W : Nat) : Int) := fun e => by
        induction e with
        | zero => exact ht
        | succ e ih => exact bits_take.mono _ _ _ _ _ ih
      have := this (65 - W)
      rwa [show W + 1 + (65 - W) = 66 by omega] at this
    rw [h66]
    rfl

theorem shl_or2 (x b : Nat) (hx : x < 9223372036854775808) (hb : b < 2) : Go.bits .or .u64 (IntKind.u64.wrap ((x : Int) * 2)) (b : Int) = ((2 * x + b : Nat) : Int) := by
  have e2 : IntKind.u64.wrap (b : Int) = (b : Int) := by rw [IntKind.wrap_u64]; omega
  have := shl_or x b hx hb
  rwa [e2] at this

theorem takeN_63 (l : List Int) (p w : Nat) (h : w ≤ 63) : takeN l p w < 9223372036854775808 :=
  Nat.lt_of_lt_of_le (takeN_lt l p w) (Nat.pow_le_pow_right (show 0 < 2 by decide) h)

theorem reftake_loop {l : List Int} (hb : Bytes l) (hl : l.length ≤ 140737488355328) (p W : Nat) (hW : W ≤ 64) (hp : p + W ≤ 8 * l.length) (d : Nat) :
    ∀ w, w + d = W → pannierref01_Take.l0 (d + 1) l (p : Int) (W : Int) (takeN l p w : Int) (w : Int) = some (((takeN l p W : Nat) : Int), 0) := by
  induction d with
  | zero =>
    intro w hw
    obtain rfl : w = W := by omega
    unfold pannierref01_Take.l0
    rw [if_neg (Int.lt_irrefl _)]
  | succ d ih =>
    intro w hw
    have e1 : wrap64 ((p : Int) + (w : Int)) = ((p + w : Nat) : Int) := by rw [wrap_small (by omega) (by omega)]; omega
    have e2 : wrap64 ((w : Int) + 1) = ((w + 1 : Nat) : Int) := by rw [wrap_small (by omega) (by omega)]; omega
    have hlt : (w : Int) < (W : Int) := by omega
    have hbit := bit_some hb hl (p + w) (by omega)
    have h3 := shl_or2 _ _ (takeN_63 l p w (by omega)) (bitN_lt l (p + w))
    have := ih (w + 1) (by omega)
    rw [takeN] at this
    unfold pannierref01_Take.l0
    rw [if_pos hlt, e1, hbit, Option.bind_some, h3, e2]
    exact this

theorem reftake_res {l : List Int} {n p w : Int} (hb : Bytes l) (hl : l.length ≤ 140737488355328) (h0 : -9223372036854775808 ≤ n) (h1 : n ≤ 9223372036854775807) :
    Ev (fun k => pannierref01_Take.f k l n p w) (takeRes l n p w) := by
  refine Ev.of (k := 80) (fun k => pannierref01_Take.mono _ _ _ _ k) ?_
  obtain ⟨k0, hk0⟩ := Ev.of (fun k => pannierref01_Right.mono _ _ k) (refright_some (n := n) hb hl h0 h1)
  have hright : pannierref01_Right.f 80 l n = some (rightB l n) := by
    have : ∀ e, pannierref01_Right.f (10 + e) l n = some (rightB l n) := fun e => by
      induction e with
      | zero => exact refright_some hb hl h0 h1
      | succ e ih => exact pannierref01_Right.mono _ _ _ _ ih
    exact this 70
  unfold pannierref01_Take.f takeRes
  rw [hright]
  simp only [Option.bind_some]
  cases hr : rightB l n with
  | false => simp [pannierref01_Take.j0]
  | true =>
    obtain ⟨r0, r1, r2⟩ := rightB_iff.1 hr
    rw [if_pos rfl]
    by_cases c1 : w < 0
    · rw [if_pos c1, if_neg (by omega)]; simp [pannierref01_Take.j0]
    rw [if_neg c1]
    by_cases c2 : w > 64
    · rw [if_pos c2, if_neg (by omega)]; simp [pannierref01_Take.j0]
    rw [if_neg c2]
    by_cases c3 : p < 0
    · rw [if_pos c3, if_neg (by omega)]; simp [pannierref01_Take.j0]
    rw [if_neg c3]
    by_cases c4 : p > n
    · rw [decide_eq_true c4, if_neg (by omega)]; simp [pannierref01_Take.j0]
    rw [decide_eq_false c4, if_pos ⟨rfl, by omega, by omega, by omega, by omega⟩]
    simp only [pannierref01_Take.j0]
    rw [if_neg (by decide), wrap_small (x := n - p) (by omega) (by omega)]
    by_cases c5 : n - p < w
    · rw [if_pos c5, if_pos c5]
    rw [if_neg c5, if_neg c5]
    obtain ⟨W, rfl⟩ := Int.eq_ofNat_of_zero_le (show 0 ≤ w by omega)
    obtain ⟨q, rfl⟩ := Int.eq_ofNat_of_zero_le (show 0 ≤ p by omega)
    have ht := reftake_loop hb hl q W (by omega) (by omega) W 0 (by omega)
    have : ∀ e, pannierref01_Take.l0 (W + 1 + e) l (q : Int) (W : Int) 0 0 = some (((takeN l q W : Nat) : Int), 0) := fun e => by
      induction e with
      | zero => exact ht
      | succ e ih => exact (pannierref01_Take.mono_l _).2 _ _ _ _ _ _ ih
    have := this (78 - W)
    rwa [show W + 1 + (78 - W) = 79 by omega] at this
end Go.Proofs.Ytlhaofbncoijfaa.Math
namespace Go.Proofs.Ytlhaofbncoijfaa.X
open Go.RowKit Go.Proofs.YtlhaofbncoijfaaW.PrintWords Go.Proofs.YtlhaofbncoijfaaW.PrintLast Go.Proofs.YtlhaofbncoijfaaW.PrintMore Go.Proofs.Ytlhaofbncoijfaa.HandF
attribute [local go_sem] max2_int min2_int max_two min_two max_three min_three max_four min_four   -- for this text's walks alone
set_option linter.unusedVariables false
set_option linter.unusedSimpArgs false

/-! ### pannierref01_size: function 80 -/
def pannierref01_size.l0 : Nat → Int → Int → Option (Int)
  | 0, _, _ => none
  | k + 1, x0, x3 => if x0 > 0 then (pannierref01_size.l0 k (IntKind.u64.wrap (Int.tdiv x0 2)) (wrap64 (x3 + 1))) else (some x3)
def pannierref01_size.f (k : Nat) (a0 : Int) : Option (Int) := pannierref01_size.l0 k a0 0
theorem pannierref01_size.mono_l : ∀ k, (∀ y0 y1, LeO (pannierref01_size.l0 k y0 y1) (pannierref01_size.l0 (k + 1) y0 y1))
  | 0 => fun _ _ r h => by simp [pannierref01_size.l0] at h
  | k + 1 => by
    have ih0 := pannierref01_size.mono_l k
    · intro y0 y1
      unfold pannierref01_size.l0
      repeat' first
      | (with_reducible exact ih0 _ _)
      | (with_reducible exact LeO.refl _)
      | (with_reducible exact LeO.none _)
      | (with_reducible refine LeO.ite ?_ ?_)
      | (with_reducible refine LeO.bind ?_ (fun _ => ?_))
      | exact ih0 _ _
      | exact LeO.none _
      | refine LeO.ite ?_ ?_
      | refine LeO.bind ?_ (fun _ => ?_)
theorem pannierref01_size.mono : ∀ a0 k, LeO (pannierref01_size.f k a0) (pannierref01_size.f (k + 1) a0) := by
  intro a0 k
  have ih0 := pannierref01_size.mono_l k
  unfold pannierref01_size.f
  repeat' first
      | (with_reducible exact ih0 _ _)
      | (with_reducible exact LeO.refl _)
      | (with_reducible exact LeO.none _)
      | (with_reducible refine LeO.ite ?_ ?_)
      | (with_reducible refine LeO.bind ?_ (fun _ => ?_))
      | exact ih0 _ _
      | exact LeO.none _
      | refine LeO.ite ?_ ?_
      | refine LeO.bind ?_ (fun _ => ?_)
set_option maxHeartbeats 8000000 in
set_option maxRecDepth 100000 in
theorem pannierref01_size.calls (k : Nat) (a0 : Int) (r : Int) (w : World) (h : pannierref01_size.f k a0 = some r) :
    Calls Try.prog 80 #[.int .u64 a0] w fun e w' => e = .returned (.int .i64 r) ∧ Drawn0 w w' := by
  have H : (pannierref01_size.l0 k a0 0) = some r := h
  clear h
  have H' := Aside0.mk H
  clear H
  go_enter Try.func80, Try.ntmps80
  go_wp2
  go_loopg [0, 3] k (fun kq v0 v3 w' => ∃ (x0_1 : Int) (x3_1 : Int), v0 = .int .u64 x0_1 ∧ v3 = .int .i64 x3_1 ∧ Aside0 (pannierref01_size.l0 kq x0_1 x3_1 = some r) ∧ Aside0 (kq ≤ k) ∧ Drawn0 w w')
  case atStart => exact ⟨(a0), (0), (by first | rfl | (simp; done) | (simp [*]; done)), (by first | rfl | (simp; done) | (simp [*]; done)), H', ⟨Nat.le_refl _⟩, by repeat (first | exact Drawn0.refl _ | apply Drawn0.step)⟩
  case round =>
    clear H'
    obtain ⟨x0_1, x3_1, rfl, rfl, HA, HK1, ⟨m1, rfl⟩⟩ := hrel
    cases gk with
    | zero => exact absurd HA.out (by simp [pannierref01_size.l0])
    | succ k1 =>
      have H := HA.out
      clear HA
      simp only [pannierref01_size.l0] at H
      by_cases c2 : x0_1 > 0
      · rw [if_pos c2] at H
        have c2b0 : decide (0 < x0_1) = true := decide_eq_true c2
        clear c2
        have H' := Aside0.mk H
        clear H
        go_wp2
        go_roundg k1
        case measure => have := HK1.out; omega
        case rel => exact ⟨(IntKind.u64.wrap (Int.tdiv x0_1 2)), (wrap64 (x3_1 + 1)), (by first | rfl | (simp; done) | (simp [*]; done)), (by first | rfl | (simp; done) | (simp [*]; done)), H', ⟨by have := HK1.out; omega⟩, by repeat (first | exact Drawn0.refl _ | apply Drawn0.step)⟩
      · rw [if_neg c2] at H
        have c2b0 : decide (0 < x0_1) = false := decide_eq_false c2
        clear c2
        obtain rfl := Option.some.inj H
        go_wp2
        go_ret
        exact ⟨by first | rfl | (simp; done) | (simp [*]; done), by repeat (first | exact Drawn0.refl _ | apply Drawn0.step)⟩

end Go.Proofs.Ytlhaofbncoijfaa.X
namespace Go.Proofs.Ytlhaofbncoijfaa.X
open Go.RowKit Go.Proofs.YtlhaofbncoijfaaW.PrintWords Go.Proofs.YtlhaofbncoijfaaW.PrintLast Go.Proofs.YtlhaofbncoijfaaW.PrintMore Go.Proofs.Ytlhaofbncoijfaa.HandF
attribute [local go_sem] max2_int min2_int max_two min_two max_three min_three max_four min_four   -- for this text's walks alone
set_option linter.unusedVariables false
set_option linter.unusedSimpArgs false

/-! ### pannierref01_Put: function 74 -/
def pannierref01_Put.f (k : Nat) (l0 : List Int) (a1 : Int) (a2 : Int) (a3 : Int) : Option (List Int × Int × Int) := (pannierref01_Right.f k l0 a1).bind fun t241 => (if t241 = true then (if a3 < 0 then (some (([] : List Int), 0, 2)) else (if a3 > 64 then (some (([] : List Int), 0, 2)) else ((pannierref01_size.f k a2).bind fun t242 => (if t242 > a3 then (some (([] : List Int), 0, 2)) else ((pannierref01_put.f l0 a1 a2 a3).bind fun bt243 => (some (bt243.1, bt243.2, 0))))))) else (some (([] : List Int), 0, 2)))
theorem pannierref01_Put.mono : ∀ a0 a1 a2 a3 k, LeO (pannierref01_Put.f k a0 a1 a2 a3) (pannierref01_Put.f (k + 1) a0 a1 a2 a3) := by
  intro a0 a1 a2 a3 k
  unfold pannierref01_Put.f
  repeat' first
      | (with_reducible exact pannierref01_Right.mono _ _ _)
      | (with_reducible exact pannierref01_size.mono _ _)
      | (with_reducible exact LeO.refl _)
      | (with_reducible exact LeO.none _)
      | (with_reducible refine LeO.ite ?_ ?_)
      | (with_reducible refine LeO.bind ?_ (fun _ => ?_))
      | exact pannierref01_Right.mono _ _ _
      | exact pannierref01_size.mono _ _
      | exact LeO.none _
      | refine LeO.ite ?_ ?_
      | refine LeO.bind ?_ (fun _ => ?_)
set_option maxHeartbeats 8000000 in
set_option maxRecDepth 100000 in
theorem pannierref01_Put.calls (k : Nat) (A0 : Option Addr) (c0 : Nat) (l0 : List Int) (a1 : Int) (a2 : Int) (a3 : Int) (r1 : List Int) (r2 : Int) (r3 : Int) (w : World) (hr0 : Kd.C (Kd.int .u8) w A0 l0.length l0) (hc0 : l0.length ≤ c0) (h : pannierref01_Put.f k l0 a1 a2 a3 = some (r1, r2, r3)) :
    Calls Try.prog 74 #[.slice A0 l0.length c0, .int .i64 a1, .int .u64 a2, .int .i64 a3] w fun e w' => ∃ v0_ : Value, e = .returned (.tuple #[v0_, .int .i64 r2, .int .i64 r3]) ∧ Kd.R (Kd.int .u8) 5 w' w.heap.size (fun _ => True) v0_ r1 ∧ Below w.heap.size w w' := by
  have HR0 := Aside0.mk hr0
  have HC0 := Aside0.mk hc0
  clear hr0 hc0
  have HB := Aside0.mk (Below.refl w.heap.size w)
  have H : ((pannierref01_Right.f k l0 a1).bind fun t241 => (if t241 = true then (if a3 < 0 then (some (([] : List Int), 0, 2)) else (if a3 > 64 then (some (([] : List Int), 0, 2)) else ((pannierref01_size.f k a2).bind fun t242 => (if t242 > a3 then (some (([] : List Int), 0, 2)) else ((pannierref01_put.f l0 a1 a2 a3).bind fun bt243 => (some (bt243.1, bt243.2, 0))))))) else (some (([] : List Int), 0, 2)))) = some (r1, r2, r3) := h
  clear h
  replace H := Option.bind_eq_some_iff.mp H
  obtain ⟨t241, A50, H⟩ := H
  replace H : (if t241 = true then (if a3 < 0 then (some (([] : List Int), 0, 2)) else (if a3 > 64 then (some (([] : List Int), 0, 2)) else ((pannierref01_size.f k a2).bind fun t242 => (if t242 > a3 then (some (([] : List Int), 0, 2)) else ((pannierref01_put.f l0 a1 a2 a3).bind fun bt243 => (some (bt243.1, bt243.2, 0))))))) else (some (([] : List Int), 0, 2))) = some (r1, r2, r3) := H
  have A5 := Aside0.mk A50
  clear A50
  by_cases c6 : t241 = true
  · subst c6
    have H1 : (if a3 < 0 then (some (([] : List Int), 0, 2)) else (if a3 > 64 then (some (([] : List Int), 0, 2)) else ((pannierref01_size.f k a2).bind fun t242 => (if t242 > a3 then (some (([] : List Int), 0, 2)) else ((pannierref01_put.f l0 a1 a2 a3).bind fun bt243 => (some (bt243.1, bt243.2, 0))))))) = some (r1, r2, r3) := by rw [if_pos rfl] at H; exact H
    clear H
    have H := H1
    clear H1
    by_cases c7 : a3 < 0
    · rw [if_pos c7] at H
      have c7b0 : decide (a3 < 0) = true := decide_eq_true c7
      clear c7
      simp only [Option.some.injEq, Prod.mk.injEq] at H
      obtain ⟨rfl, rfl, rfl⟩ := H
      go_enter Try.func74, Try.ntmps74
      go_wp2_with (first | ((with_reducible refine gate_callee (f := 56) rfl ?_); refine goesL_ (some 16) rfl rfl Try.func56 (by kernel_rfl) rfl #[.slice A0 l0.length c0, .int .i64 a1] rfl (by (try simp only [List.map_toArray, List.map_cons, List.map_nil]); first | done | rfl | (simp only [List.length_drop, List.length_take]; rfl)) ?_; (with_reducible refine (pannierref01_Right.calls k _ _ l0 a1 true _ ?side1 ?side2 A5.out).mono ?_); (case side1 => repeat (first | exact HR0.out | (with_reducible refine Kd.C_alloc ?_ _) | (with_reducible refine Kd.C_drewN ?_ _) | (with_reducible refine Kd.C_drew ?_))); (case side2 => exact HC0.out); rintro e w' ⟨rfl, ⟨nd, rfl⟩⟩; refine ⟨_, rfl, ?_⟩))
      go_ret3
      exact ⟨_, by first | rfl | (simp [errW_none, errW_some] <;> rfl) | (simp [*, errW_none, errW_some] <;> rfl), by first | exact Kd.R_nil _ _ _ _ _ | exact Kd.N_nil _ _ _ _ _ | exact Kd.V_nil _ _ _ _ _ | exact Kd.Q_nil _ _ _ _ _ | exact Kd.S_nil _ _ _ _ _, by repeat (first | (with_reducible first | exact HB.out | apply below_alloc | apply pw_below_drewN | apply below_drew1) | exact HB.out)⟩
    · rw [if_neg c7] at H
      have c7b0 : decide (a3 < 0) = false := decide_eq_false c7
      clear c7
      by_cases c8 : a3 > 64
      · rw [if_pos c8] at H
        have c8b0 : decide (64 < a3) = true := decide_eq_true c8
        clear c8
        simp only [Option.some.injEq, Prod.mk.injEq] at H
        obtain ⟨rfl, rfl, rfl⟩ := H
        go_enter Try.func74, Try.ntmps74
        go_wp2_with (first | ((with_reducible refine gate_callee (f := 56) rfl ?_); refine goesL_ (some 16) rfl rfl Try.func56 (by kernel_rfl) rfl #[.slice A0 l0.length c0, .int .i64 a1] rfl (by (try simp only [List.map_toArray, List.map_cons, List.map_nil]); first | done | rfl | (simp only [List.length_drop, List.length_take]; rfl)) ?_; (with_reducible refine (pannierref01_Right.calls k _ _ l0 a1 true _ ?side1 ?side2 A5.out).mono ?_); (case side1 => repeat (first | exact HR0.out | (with_reducible refine Kd.C_alloc ?_ _) | (with_reducible refine Kd.C_drewN ?_ _) | (with_reducible refine Kd.C_drew ?_))); (case side2 => exact HC0.out); rintro e w' ⟨rfl, ⟨nd, rfl⟩⟩; refine ⟨_, rfl, ?_⟩))
        go_ret3
        exact ⟨_, by first | rfl | (simp [errW_none, errW_some] <;> rfl) | (simp [*, errW_none, errW_some] <;> rfl), by first | exact Kd.R_nil _ _ _ _ _ | exact Kd.N_nil _ _ _ _ _ | exact Kd.V_nil _ _ _ _ _ | exact Kd.Q_nil _ _ _ _ _ | exact Kd.S_nil _ _ _ _ _, by repeat (first | (with_reducible first | exact HB.out | apply below_alloc | apply pw_below_drewN | apply below_drew1) | exact HB.out)⟩
      · rw [if_neg c8] at H
        have c8b0 : decide (64 < a3) = false := decide_eq_false c8
        clear c8
        replace H := Option.bind_eq_some_iff.mp H
        obtain ⟨t242, A90, H⟩ := H
        replace H : (if t242 > a3 then (some (([] : List Int), 0, 2)) else ((pannierref01_put.f l0 a1 a2 a3).bind fun bt243 => (some (bt243.1, bt243.2, 0)))) = some (r1, r2, r3) := H
        have A9 := Aside0.mk A90
        clear A90
        by_cases c10 : t242 > a3
        · rw [if_pos c10] at H
          have c10b0 : decide (a3 < t242) = true := decide_eq_true c10
          clear c10
          simp only [Option.some.injEq, Prod.mk.injEq] at H
          obtain ⟨rfl, rfl, rfl⟩ := H
          go_enter Try.func74, Try.ntmps74
          go_wp2_with (first | ((with_reducible refine gate_callee (f := 56) rfl ?_); refine goesL_ (some 16) rfl rfl Try.func56 (by kernel_rfl) rfl #[.slice A0 l0.length c0, .int .i64 a1] rfl (by (try simp only [List.map_toArray, List.map_cons, List.map_nil]); first | done | rfl | (simp only [List.length_drop, List.length_take]; rfl)) ?_; (with_reducible refine (pannierref01_Right.calls k _ _ l0 a1 true _ ?side1 ?side2 A5.out).mono ?_); (case side1 => repeat (first | exact HR0.out | (with_reducible refine Kd.C_alloc ?_ _) | (with_reducible refine Kd.C_drewN ?_ _) | (with_reducible refine Kd.C_drew ?_))); (case side2 => exact HC0.out); rintro e w' ⟨rfl, ⟨nd, rfl⟩⟩; refine ⟨_, rfl, ?_⟩) | (go_at_call 80; (with_reducible refine (pannierref01_size.calls k a2 t242 _ A9.out).mono ?_); rintro e w' ⟨rfl, ⟨nd, rfl⟩⟩))
          go_ret3
          exact ⟨_, by first | rfl | (simp [errW_none, errW_some] <;> rfl) | (simp [*, errW_none, errW_some] <;> rfl), by first | exact Kd.R_nil _ _ _ _ _ | exact Kd.N_nil _ _ _ _ _ | exact Kd.V_nil _ _ _ _ _ | exact Kd.Q_nil _ _ _ _ _ | exact Kd.S_nil _ _ _ _ _, by repeat (first | (with_reducible first | exact HB.out | apply below_alloc | apply pw_below_drewN | apply below_drew1) | exact HB.out)⟩
        · rw [if_neg c10] at H
          have c10b0 : decide (a3 < t242) = false := decide_eq_false c10
          clear c10
          replace H := Option.bind_eq_some_iff.mp H
          obtain ⟨⟨t243, t244⟩, A110, H⟩ := H
          replace H : (some (t243, t244, 0)) = some (r1, r2, r3) := H
          have A11 := Aside0.mk A110
          clear A110
          simp only [Option.some.injEq, Prod.mk.injEq] at H
          obtain ⟨rfl, rfl, rfl⟩ := H
          go_enter Try.func74, Try.ntmps74
          go_wp2_with (first | ((with_reducible refine gate_callee (f := 56) rfl ?_); refine goesL_ (some 16) rfl rfl Try.func56 (by kernel_rfl) rfl #[.slice A0 l0.length c0, .int .i64 a1] rfl (by (try simp only [List.map_toArray, List.map_cons, List.map_nil]); first | done | rfl | (simp only [List.length_drop, List.length_take]; rfl)) ?_; (with_reducible refine (pannierref01_Right.calls k _ _ l0 a1 true _ ?side1 ?side2 A5.out).mono ?_); (case side1 => repeat (first | exact HR0.out | (with_reducible refine Kd.C_alloc ?_ _) | (with_reducible refine Kd.C_drewN ?_ _) | (with_reducible refine Kd.C_drew ?_))); (case side2 => exact HC0.out); rintro e w' ⟨rfl, ⟨nd, rfl⟩⟩; refine ⟨_, rfl, ?_⟩) | (go_at_call 80; (with_reducible refine (pannierref01_size.calls k a2 t242 _ A9.out).mono ?_); rintro e w' ⟨rfl, ⟨nd, rfl⟩⟩) | ((with_reducible refine gate_callee (f := 81) rfl ?_); refine goesL_ (some 38) rfl rfl Try.func81 (by kernel_rfl) rfl #[.slice A0 l0.length c0, .int .i64 a1, .int .u64 a2, .int .i64 a3] rfl (by (try simp only [List.map_toArray, List.map_cons, List.map_nil]); first | done | rfl | (simp only [List.length_drop, List.length_take]; rfl)) ?_; (with_reducible refine (pannierref01_put.calls _ _ l0 a1 a2 a3 t243 t244 _ ?side1 ?side2 A11.out).mono ?_); (case side1 => repeat (first | exact HR0.out | (with_reducible refine Kd.C_alloc ?_ _) | (with_reducible refine Kd.C_drewN ?_ _) | (with_reducible refine Kd.C_drew ?_))); (case side2 => exact HC0.out); rintro e w12 ⟨v245, rfl, ho0, hb⟩; refine ⟨_, rfl, ?_⟩; have n0_ := Aside0.mk (Kd.R_lower ho0 (below_size (by repeat (first | (with_reducible first | exact HB.out | apply below_alloc | apply pw_below_drewN | apply below_drew1) | exact HB.out)))); have n1_ := Aside0.mk (below_step (by repeat (first | (with_reducible first | exact HB.out | apply below_alloc | apply pw_below_drewN | apply below_drew1) | exact HB.out)) hb); clear HB; have HO246 := n0_; have HB := n1_; clear n0_ n1_; (try clear hb); (try clear hb2); (try clear hk); (try clear hi); (try clear ho0)))
          go_ret3
          exact ⟨_, by first | rfl | (simp [errW_none, errW_some] <;> rfl) | (simp [*, errW_none, errW_some] <;> rfl), by (with_reducible repeat (first | apply Kd.R_alloc | apply Kd.R_drewN | apply Kd.R_drew)); exact HO246.out, by repeat (first | (with_reducible first | exact HB.out | apply below_alloc | apply pw_below_drewN | apply below_drew1) | exact HB.out)⟩
  · replace c6 := Bool.eq_false_iff.mpr c6
    subst c6
    have H1 : (some (([] : List Int), 0, 2)) = some (r1, r2, r3) := by rw [if_neg (show ¬ (false = true) by decide)] at H; exact H
    clear H
    have H := H1
    clear H1
    simp only [Option.some.injEq, Prod.mk.injEq] at H
    obtain ⟨rfl, rfl, rfl⟩ := H
    go_enter Try.func74, Try.ntmps74
    go_wp2_with (first | ((with_reducible refine gate_callee (f := 56) rfl ?_); refine goesL_ (some 16) rfl rfl Try.func56 (by kernel_rfl) rfl #[.slice A0 l0.length c0, .int .i64 a1] rfl (by (try simp only [List.map_toArray, List.map_cons, List.map_nil]); first | done | rfl | (simp only [List.length_drop, List.length_take]; rfl)) ?_; (with_reducible refine (pannierref01_Right.calls k _ _ l0 a1 false _ ?side1 ?side2 A5.out).mono ?_); (case side1 => repeat (first | exact HR0.out | (with_reducible refine Kd.C_alloc ?_ _) | (with_reducible refine Kd.C_drewN ?_ _) | (with_reducible refine Kd.C_drew ?_))); (case side2 => exact HC0.out); rintro e w' ⟨rfl, ⟨nd, rfl⟩⟩; refine ⟨_, rfl, ?_⟩))
    go_ret3
    exact ⟨_, by first | rfl | (simp [errW_none, errW_some] <;> rfl) | (simp [*, errW_none, errW_some] <;> rfl), by first | exact Kd.R_nil _ _ _ _ _ | exact Kd.N_nil _ _ _ _ _ | exact Kd.V_nil _ _ _ _ _ | exact Kd.Q_nil _ _ _ _ _ | exact Kd.S_nil _ _ _ _ _, by repeat (first | (with_reducible first | exact HB.out | apply below_alloc | apply pw_below_drewN | apply below_drew1) | exact HB.out)⟩

end Go.Proofs.Ytlhaofbncoijfaa.X
namespace Go.Proofs.Ytlhaofbncoijfaa.Math
set_option linter.unusedVariables false
set_option linter.unusedSimpArgs false
open Go.RowKit Go.Proofs.Ytlhaofbncoijfaa.X Go.Proofs.Ytlhaofbncoijfaa.HandF Go.Proofs.Ytlhaofbncoijfaa.Hand
open Go.Proofs.YtlhaofbncoijfaaW.PrintWords Go.Proofs.YtlhaofbncoijfaaW.PrintLast Go.Proofs.YtlhaofbncoijfaaW.PrintMore

theorem size_loop : ∀ (f x : Nat) (c : Int), x < 2 ^ f → x < 18446744073709551616 → 0 ≤ c → c + f ≤ 1000 → pannierref01_size.l0 (f + 1) (x : Int) c = some (c + (Lib.bitLenAux f x : Nat))
  | 0, x, c, hx, hx2, h0, h1 => by
    have : x = 0 := by simpa using hx
    subst this
    unfold pannierref01_size.l0
    simp [Lib.bitLenAux]
  | f + 1, x, c, hx, hx2, h0, h1 => by
    unfold pannierref01_size.l0
    rw [Lib.bitLenAux]
    by_cases hz : x = 0
    · subst hz; simp
    · have hp := Nat.pow_succ 2 f
      have e1 : IntKind.u64.wrap (Int.tdiv (x : Int) 2) = ((x / 2 : Nat) : Int) := by
        rw [Int.tdiv_eq_ediv_of_nonneg (by omega), IntKind.wrap_u64]; omega
      have e2 : wrap64 (c + 1) = c + 1 := wrap_small (by omega) (by omega)
      have ih := size_loop f (x / 2) (c + 1) (by omega) (by omega) (by omega) (by omega)
      rw [if_pos (by omega), if_neg hz, e1, e2, ih]
      congr 1
      omega

theorem size_some {v : Int} (h0 : 0 ≤ v) (h1 : v < 18446744073709551616) : Ev (fun k => pannierref01_size.f k v) ((Lib.bitLen v.toNat : Nat) : Int) := by
  refine Ev.of (k := 65) (fun k => pannierref01_size.mono _ k) ?_
  obtain ⟨x, rfl⟩ := Int.eq_ofNat_of_zero_le h0
  have := size_loop 64 x 0 (by omega) (by omega) (by omega) (by omega)
  rw [Int.zero_add] at this
  exact this

/-- What Put tells. -/
def putRes (l : List Int) (n v w : Int) : List Int × Int × Int :=
  if rightB l n = true ∧ 0 ≤ w ∧ w ≤ 64 ∧ ((Lib.bitLen v.toNat : Nat) : Int) ≤ w then (((highs v w.toNat).foldl stepB (l, n)).1, ((highs v w.toNat).foldl stepB (l, n)).2, 0) else ([], 0, 2)

theorem put_res {l : List Int} {n v w : Int} (hb : Bytes l) (hl : l.length + 9 ≤ 140737488355328) (h0 : -9223372036854775808 ≤ n) (h1 : n ≤ 9223372036854775807) (v0 : 0 ≤ v) (v1 : v < 18446744073709551616) :
    bits_Put.f l n v w = some (putRes l n v w) := by
  unfold bits_Put.f putRes bits_Len64.f
  rw [right_some hb (by omega) h0 h1]
  simp only [Option.bind_some]
  cases hr : rightB l n with
  | false => simp
  | true =>
    obtain ⟨r0, r1, r2⟩ := rightB_iff.1 hr
    rw [if_pos rfl]
    by_cases c1 : w < 0
    · rw [if_pos c1, if_neg (by omega)]
    rw [if_neg c1]
    by_cases c2 : w > 64
    · rw [if_pos c2, if_neg (by omega)]
    rw [if_neg c2, if_pos (by omega)]
    simp only [Option.bind_some]
    by_cases c3 : ((Lib.bitLen v.toNat : Nat) : Int) > w
    · rw [if_pos c3, if_neg (by omega)]
    rw [if_neg c3, if_pos ⟨r0, r1, hl⟩, if_pos ⟨trivial, by omega, by omega, by omega⟩]

theorem refright_res {l : List Int} {n : Int} (hb : Bytes l) (hl : l.length ≤ 140737488355328) (h0 : -9223372036854775808 ≤ n) (h1 : n ≤ 9223372036854775807) : Ev (fun k => pannierref01_Right.f k l n) (rightB l n) :=
  Ev.of (fun k => pannierref01_Right.mono _ _ k) (refright_some hb hl h0 h1)

theorem refput_res {l : List Int} {n v w : Int} (hb : Bytes l) (hl : l.length + 9 ≤ 140737488355328) (h0 : -9223372036854775808 ≤ n) (h1 : n ≤ 9223372036854775807) (v0 : 0 ≤ v) (v1 : v < 18446744073709551616) :
    Ev (fun k => pannierref01_Put.f k l n v w) (putRes l n v w) := by
  obtain ⟨k1, hk1⟩ := refright_res (n := n) hb (by omega) h0 h1
  obtain ⟨k2, hk2⟩ := size_some v0 v1
  dsimp only at hk1 hk2
  refine ⟨max k1 k2, fun k hk => ?_⟩
  dsimp only
  unfold pannierref01_Put.f putRes pannierref01_put.f
  rw [hk1 k (by omega), hk2 k (by omega)]
  simp only [Option.bind_some]
  cases hr : rightB l n with
  | false => simp
  | true =>
    obtain ⟨r0, r1, r2⟩ := rightB_iff.1 hr
    rw [if_pos rfl]
    by_cases c1 : w < 0
    · rw [if_pos c1, if_neg (by omega)]
    rw [if_neg c1]
    by_cases c2 : w > 64
    · rw [if_pos c2, if_neg (by omega)]
    rw [if_neg c2]
    by_cases c3 : ((Lib.bitLen v.toNat : Nat) : Int) > w
    · rw [if_pos c3, if_neg (by omega)]
    rw [if_neg c3, if_pos ⟨r0, r1, hl, by omega, by omega, v0, v1⟩, if_pos ⟨rfl, by omega, by omega, by omega⟩]
    rfl

end Go.Proofs.Ytlhaofbncoijfaa.Math
namespace Go.Proofs.Ytlhaofbncoijfaa.Math
set_option linter.unusedVariables false
set_option linter.unusedSimpArgs false
open Go.RowKit Go.Proofs.Ytlhaofbncoijfaa.X Go.Proofs.Ytlhaofbncoijfaa.HandF Go.Proofs.Ytlhaofbncoijfaa.Hand
open Go.Proofs.YtlhaofbncoijfaaW.PrintWords Go.Proofs.YtlhaofbncoijfaaW.PrintLast Go.Proofs.YtlhaofbncoijfaaW.PrintMore

theorem or_bits : ∀ x : Fin 256, ∀ r : Fin 8, ∀ j : Fin 8, (x.val ||| 128 / 2 ^ r.val) / 2 ^ (7 - j.val) % 2 = if j = r then 1 else x.val / 2 ^ (7 - j.val) % 2 := by decide +kernel

theorem rd_at {l : List Int} {i : Nat} : rd l (i : Int) = l.getD i 0 := by unfold rd; rw [Int.toNat_natCast]
theorem bitN_eq {l l' : List Int} {i : Nat} (h : l'.getD (i / 8) 0 = l.getD (i / 8) 0) : bitN l' i = bitN l i := by
  unfold bitN; rw [rd_at, rd_at, h]
theorem bitN_out {l : List Int} {i : Nat} (h : l.length ≤ i / 8) : bitN l i = 0 := by
  unfold bitN; rw [rd_at, List.getD_eq_getElem?_getD, List.getElem?_eq_none h]; simp

/-- A row of bytes with m bits, nothing behind them. -/
structure Row (l : List Int) (m : Nat) : Prop where
  bytes : Bytes l
  len : (m + 7) / 8 = l.length
  pad : ∀ i, m ≤ i → bitN l i = 0
theorem Row.of_right {l : List Int} {m : Nat} (hb : Bytes l) (h : rightB l (m : Int) = true) : Row l m := by
  obtain ⟨h0, h1, h2⟩ := rightB_iff.1 h
  refine ⟨hb, by omega, fun i hi => ?_⟩
  by_cases h8 : i < 8 * l.length
  · exact h2 i h8 (by omega)
  · exact bitN_out (by omega)
theorem Row.right {l : List Int} {m : Nat} (h : Row l m) : rightB l (m : Int) = true :=
  rightB_iff.2 ⟨by omega, by have := h.len; omega, fun i _ hi => h.pad i (by omega)⟩
theorem Row.nil : Row [] 0 := ⟨fun x hx => by simp at hx, rfl, fun i _ => bitN_out (by simp)⟩

theorem byte_or {x : Int} (r : Nat) (h0 : 0 ≤ x) (h1 : x ≤ 255) (hr : r < 8) : Go.bits .or .u8 x (128 / 2 ^ r) = ((x.toNat ||| 128 / 2 ^ r : Nat) : Int) := by
  obtain ⟨y, rfl⟩ := Int.eq_ofNat_of_zero_le h0
  have hp : 128 / 2 ^ r < 256 := Nat.lt_of_le_of_lt (Nat.div_le_self _ _) (by decide)
  have e : ((128 : Int) / 2 ^ r) = ((128 / 2 ^ r : Nat) : Int) := by simp
  rw [e, u8_or_nat y _ (by omega) hp, Int.toNat_natCast]

theorem row_step {l : List Int} {m : Nat} (h : Row l m) (b : Bool) : ∃ l', stepB (l, (m : Int)) b = (l', ((m + 1 : Nat) : Int)) ∧ Row l' (m + 1) ∧ bitN l' m = b.toNat ∧ ∀ i, i < m → bitN l' i = bitN l i := by
  obtain ⟨hb, hlen, hpad⟩ := h
  by_cases h8 : m % 8 = 0
  · have hm : m = 8 * l.length := by omega
    have hz : Bytes (l ++ [0]) := by
      intro x hx
      rcases List.mem_append.1 hx with h | h
      · exact hb x h
      · simp at h; omega
    have hbit0 : ∀ i, bitN (l ++ [0]) i = bitN l i := fun i => by
      apply bitN_eq
      rw [List.getD_eq_getElem?_getD, List.getD_eq_getElem?_getD]
      rcases Nat.lt_trichotomy (i / 8) l.length with h | h | h
      · rw [List.getElem?_append_left h]
      · rw [h, List.getElem?_append_right (Nat.le_refl _), Nat.sub_self, List.getElem?_eq_none (Nat.le_refl _)]; rfl
      · rw [List.getElem?_eq_none (by simp; omega), List.getElem?_eq_none (by omega)]
    cases b with
    | false =>
      refine ⟨l ++ [0], ?_, ⟨hz, by simp; omega, fun i hi => by rw [hbit0]; exact hpad i (by omega)⟩, by rw [hbit0]; exact hpad m (Nat.le_refl _), fun i _ => hbit0 i⟩
      have hc : (m : Int) % 8 = 0 := by omega
      unfold stepB
      simp only
      rw [if_pos hc]
      simp
    | true =>
      have hs : stepB (l, (m : Int)) true = ((l ++ [0]).set l.length 128, ((m + 1 : Nat) : Int)) := by
        have hc : (m : Int) % 8 = 0 := by omega
        have hc2 : ((m : Int) % 8).toNat = 0 := by omega
        unfold stepB
        simp only
        rw [if_pos hc, hc2]
        have : rd (l ++ [0]) (((l ++ [0]).length : Int) - 1) = 0 := by
          rw [List.length_append, List.length_singleton, show (((l.length + 1 : Nat) : Int) - 1) = (l.length : Int) by omega, rd_at]
          simp
        rw [this]
        simp
        decide
      have hg : ∀ i, ((l ++ [0]).set l.length 128).getD i 0 = if i = l.length then 128 else (l ++ [0]).getD i 0 := fun i => by
        rw [List.getD_eq_getElem?_getD, List.getD_eq_getElem?_getD, List.getElem?_set]
        by_cases he : l.length = i
        · subst he; simp
        · rw [if_neg he, if_neg (fun h => he h.symm)]
      refine ⟨_, hs, ⟨?_, by simp; omega, ?_⟩, ?_, ?_⟩
      · intro x hx
        rcases List.mem_or_eq_of_mem_set hx with h | h
        · exact hz x h
        · omega
      · intro i hi
        by_cases he : i / 8 = l.length
        · unfold bitN
          rw [rd_at, hg, if_pos he]
          have := or_bits ⟨0, by decide⟩ ⟨0, by decide⟩ ⟨i % 8, by omega⟩
          simp only [Nat.zero_or, Nat.pow_zero, Nat.div_one, Fin.mk.injEq] at this
          rw [show (128 : Int).toNat = 128 from rfl, this, if_neg (by omega)]
          simp
        · rw [bitN_eq (l := l ++ [0]) (by rw [hg, if_neg he]), hbit0]; exact hpad i (by omega)
      · unfold bitN
        rw [rd_at, hg, if_pos (by omega), h8]
        decide
      · intro i hi
        rw [bitN_eq (l := l ++ [0]) (by rw [hg, if_neg (by omega)]), hbit0]
  · obtain ⟨p, hp⟩ : ∃ p, l.length = p + 1 := ⟨l.length - 1, by omega⟩
    have hmp : m / 8 = p := by omega
    cases b with
    | false =>
      refine ⟨l, ?_, ⟨hb, by omega, fun i hi => hpad i (by omega)⟩, hpad m (Nat.le_refl _), fun i _ => rfl⟩
      have hc : ¬ (m : Int) % 8 = 0 := by omega
      unfold stepB
      simp only
      rw [if_neg hc]
      simp
    | true =>
      obtain ⟨x0, x1⟩ := rd_byte hb (p : Int)
      have hor := byte_or (m % 8) x0 x1 (Nat.mod_lt _ (by decide))
      have hlt : ((rd l (p : Int)).toNat ||| 128 / 2 ^ (m % 8)) < 256 := Nat.or_lt_two_pow (n := 8) (by omega) (Nat.lt_of_le_of_lt (Nat.div_le_self _ _) (by decide))
      have hs : stepB (l, (m : Int)) true = (l.set p (((rd l (p : Int)).toNat ||| 128 / 2 ^ (m % 8) : Nat) : Int), ((m + 1 : Nat) : Int)) := by
        have hc : ¬ (m : Int) % 8 = 0 := by omega
        have hc2 : ((m : Int) % 8).toNat = m % 8 := by omega
        unfold stepB
        simp only
        rw [if_neg hc, hc2, hp, show (((p + 1 : Nat) : Int) - 1) = (p : Int) by omega, hor]
        simp
      obtain ⟨y, hy⟩ : ∃ y, ((rd l (p : Int)).toNat ||| 128 / 2 ^ (m % 8)) = y := ⟨_, rfl⟩
      have hbits := or_bits ⟨(rd l (p : Int)).toNat, by omega⟩ ⟨m % 8, Nat.mod_lt _ (by decide)⟩
      simp only [hy] at hbits
      rw [hy] at hs hlt
      have hg : ∀ i, (l.set p (y : Int)).getD i 0 = if i = p then (y : Int) else l.getD i 0 := fun i => by
        rw [List.getD_eq_getElem?_getD, List.getD_eq_getElem?_getD, List.getElem?_set]
        by_cases he : p = i
        · subst he; simp [hp]
        · rw [if_neg he, if_neg (fun h => he h.symm)]
      have hin : ∀ i, i / 8 = p → bitN (l.set p (y : Int)) i = if i % 8 = m % 8 then 1 else bitN l i := fun i hi => by
        unfold bitN
        rw [rd_at, hg, if_pos hi, Int.toNat_natCast, hi]
        have := hbits ⟨i % 8, Nat.mod_lt _ (by decide)⟩
        simpa using this
      refine ⟨_, hs, ⟨?_, by simp; omega, ?_⟩, ?_, ?_⟩
      · intro x hx
        rcases List.mem_or_eq_of_mem_set hx with h | h
        · exact hb x h
        · omega
      · intro i hi
        by_cases he : i / 8 = p
        · rw [hin i he, if_neg (by omega)]; exact hpad i (by omega)
        · rw [bitN_eq (l := l) (by rw [hg, if_neg he])]; exact hpad i (by omega)
      · rw [hin m hmp, if_pos rfl]; rfl
      · intro i hi
        by_cases he : i / 8 = p
        · rw [hin i he, if_neg (by omega)]
        · rw [bitN_eq (l := l) (by rw [hg, if_neg he])]

theorem row_fold : ∀ (L : List Bool) {l : List Int} {m : Nat}, Row l m → ∃ l', L.foldl stepB (l, (m : Int)) = (l', ((m + L.length : Nat) : Int)) ∧ Row l' (m + L.length) ∧ (∀ i, i < m → bitN l' i = bitN l i) ∧ ∀ j, (hj : j < L.length) → bitN l' (m + j) = (L[j]).toNat
  | [], l, m, h => ⟨l, rfl, h, fun _ _ => rfl, fun j hj => absurd hj (by simp)⟩
  | b :: L, l, m, h => by
    obtain ⟨l1, e1, r1, b1, k1⟩ := row_step h b
    obtain ⟨l2, e2, r2, k2, b2⟩ := row_fold L r1
    refine ⟨l2, ?_, ?_, fun i hi => (k2 i (by omega)).trans (k1 i hi), fun j hj => ?_⟩
    · rw [List.foldl_cons, e1, e2, List.length_cons]; congr 2; omega
    · rw [List.length_cons, show m + (L.length + 1) = m + 1 + L.length by omega]; exact r2
    · cases j with
      | zero => rw [Nat.add_zero, k2 m (by omega), b1]; rfl
      | succ j =>
        rw [show m + (j + 1) = m + 1 + j by omega]
        exact b2 j (by simpa using hj)
end Go.Proofs.Ytlhaofbncoijfaa.Math
namespace Go.Proofs.Ytlhaofbncoijfaa.X
open Go.RowKit Go.Proofs.YtlhaofbncoijfaaW.PrintWords Go.Proofs.YtlhaofbncoijfaaW.PrintLast Go.Proofs.YtlhaofbncoijfaaW.PrintMore Go.Proofs.Ytlhaofbncoijfaa.HandF
attribute [local go_sem] max2_int min2_int max_two min_two max_three min_three max_four min_four   -- for this text's walks alone
set_option linter.unusedVariables false
set_option linter.unusedSimpArgs false

/-! ### pannierref04_lay: function 57 -/
def pannierref04_lay.f : Nat → List Int → Int → Bool → List (S24) → Option (List Int × Int)
  | 0, _, _, _, _ => none
  | k + 1, l0, a1, a2_0, l2_1 => if (l2_1.length : Int) = 2 then ((pannierref01_Put.f k l0 a1 1 1).bind fun bt248 => (if 0 < (l2_1.length : Int) then ((pannierref04_lay.f k bt248.1 bt248.2.1 ((rd_T24 l2_1 0).f0) ((rd_T24 l2_1 0).f1)).bind fun bt254 => (if 1 < (l2_1.length : Int) then ((pannierref04_lay.f k bt254.1 bt254.2 ((rd_T24 l2_1 1).f0) ((rd_T24 l2_1 1).f1)).bind fun bt259 => (some (bt259.1, bt259.2))) else (none))) else (none))) else (if a2_0 = true then ((pannierref01_Put.f k l0 a1 1 2).bind fun bt263 => (some (bt263.1, bt263.2.1))) else ((pannierref01_Put.f k l0 a1 0 2).bind fun bt268 => (some (bt268.1, bt268.2.1))))
theorem pannierref04_lay.mono_l : ∀ k, (∀ y0 y1 y2 y3, LeO (pannierref04_lay.f k y0 y1 y2 y3) (pannierref04_lay.f (k + 1) y0 y1 y2 y3))
  | 0 => fun _ _ _ _ r h => by simp [pannierref04_lay.f] at h
  | k + 1 => by
    have ih0 := pannierref04_lay.mono_l k
    · intro y0 y1 y2 y3
      unfold pannierref04_lay.f
      repeat' first
      | (with_reducible exact ih0 _ _ _ _)
      | (with_reducible exact pannierref01_Put.mono _ _ _ _ _)
      | (with_reducible exact LeO.refl _)
      | (with_reducible exact LeO.none _)
      | (with_reducible refine LeO.ite ?_ ?_)
      | (with_reducible refine LeO.bind ?_ (fun _ => ?_))
      | exact ih0 _ _ _ _
      | exact pannierref01_Put.mono _ _ _ _ _
      | exact LeO.none _
      | refine LeO.ite ?_ ?_
      | refine LeO.bind ?_ (fun _ => ?_)
theorem pannierref04_lay.mono : ∀ a0 a1 a2 a3 k, LeO (pannierref04_lay.f k a0 a1 a2 a3) (pannierref04_lay.f (k + 1) a0 a1 a2 a3) := by
  intro a0 a1 a2 a3 k
  have ih0 := pannierref04_lay.mono_l k
  exact ih0 a0 a1 a2 a3
set_option maxHeartbeats 8000000 in
set_option maxRecDepth 100000 in
theorem pannierref04_lay.calls (k : Nat) : ∀ (A0 : Option Addr) (c0 : Nat) (l0 : List Int) (a1 : Int) (a2_0 : Bool) (A2_1 : Option Addr) (c2_1 : Nat) (l2_1 : List (S24)) (r1 : List Int) (r2 : Int) (w : World) (hr0 : Kd.C (Kd.int .u8) w A0 l0.length l0) (hc0 : l0.length ≤ c0) (hr2_1 : Kd.C k24 w A2_1 l2_1.length l2_1) (hc2_1 : l2_1.length ≤ c2_1) (h : pannierref04_lay.f k l0 a1 a2_0 l2_1 = some (r1, r2)),
    Calls Try.prog 57 #[.slice A0 l0.length c0, .int .i64 a1, .agg #[.bool a2_0, .slice A2_1 l2_1.length c2_1]] w fun e w' => ∃ v0_ : Value, e = .returned (.tuple #[v0_, .int .i64 r2]) ∧ Kd.R (Kd.int .u8) 5 w' w.heap.size (fun _ => True) v0_ r1 ∧ Below w.heap.size w w' := by
  induction k using Nat.strongRecOn with
  | _ k ih =>
  intro A0 c0 l0 a1 a2_0 A2_1 c2_1 l2_1 r1 r2 w hr0 hc0 hr2_1 hc2_1 h
  cases k with
  | zero => exact absurd h (by simp [pannierref04_lay.f])
  | succ k =>
  simp only [pannierref04_lay.f] at h
  have hu24 := Try.underlying24
  have HR0 := Aside0.mk hr0
  have HC0 := Aside0.mk hc0
  clear hr0 hc0
  have HR2_1 := Aside0.mk hr2_1
  have HC2_1 := Aside0.mk hc2_1
  clear hr2_1 hc2_1
  have HB := Aside0.mk (Below.refl w.heap.size w)
  have H : (if (l2_1.length : Int) = 2 then ((pannierref01_Put.f k l0 a1 1 1).bind fun bt248 => (if 0 < (l2_1.length : Int) then ((pannierref04_lay.f k bt248.1 bt248.2.1 ((rd_T24 l2_1 0).f0) ((rd_T24 l2_1 0).f1)).bind fun bt254 => (if 1 < (l2_1.length : Int) then ((pannierref04_lay.f k bt254.1 bt254.2 ((rd_T24 l2_1 1).f0) ((rd_T24 l2_1 1).f1)).bind fun bt259 => (some (bt259.1, bt259.2))) else (none))) else (none))) else (if a2_0 = true then ((pannierref01_Put.f k l0 a1 1 2).bind fun bt263 => (some (bt263.1, bt263.2.1))) else ((pannierref01_Put.f k l0 a1 0 2).bind fun bt268 => (some (bt268.1, bt268.2.1))))) = some (r1, r2) := h
  clear h
  by_cases c4 : (l2_1.length : Int) = 2
  · rw [if_pos c4] at H
    have c4b0 : ((l2_1.length : Int) == 2) = true := beq_iff_eq.mpr c4
    have c4b1 : ((l2_1.length : Int) != 2) = false := bne_eq_false_iff_eq.mpr c4
    clear c4
    replace H := Option.bind_eq_some_iff.mp H
    obtain ⟨⟨t248, t249, t250⟩, A50, H⟩ := H
    replace H : (if 0 < (l2_1.length : Int) then ((pannierref04_lay.f k t248 t249 ((rd_T24 l2_1 0).f0) ((rd_T24 l2_1 0).f1)).bind fun bt254 => (if 1 < (l2_1.length : Int) then ((pannierref04_lay.f k bt254.1 bt254.2 ((rd_T24 l2_1 1).f0) ((rd_T24 l2_1 1).f1)).bind fun bt259 => (some (bt259.1, bt259.2))) else (none))) else (none)) = some (r1, r2) := H
    have A5 := Aside0.mk A50
    clear A50
    by_cases c6 : 0 < (l2_1.length : Int)
    · rw [if_pos c6] at H
      have c6b0 : decide (0 < (l2_1.length : Int)) = true := decide_eq_true c6
      have c6b1 : decide (0 < l2_1.length) = true := decide_eq_true (by omega)
      clear c6
      replace H := Option.bind_eq_some_iff.mp H
      obtain ⟨⟨t254, t257⟩, A70, H⟩ := H
      replace H : (if 1 < (l2_1.length : Int) then ((pannierref04_lay.f k t254 t257 ((rd_T24 l2_1 1).f0) ((rd_T24 l2_1 1).f1)).bind fun bt259 => (some (bt259.1, bt259.2))) else (none)) = some (r1, r2) := H
      have A7 := Aside0.mk A70
      clear A70
      by_cases c8 : 1 < (l2_1.length : Int)
      · rw [if_pos c8] at H
        have c8b0 : decide (1 < (l2_1.length : Int)) = true := decide_eq_true c8
        have c8b1 : decide (1 < l2_1.length) = true := decide_eq_true (by omega)
        clear c8
        replace H := Option.bind_eq_some_iff.mp H
        obtain ⟨⟨t259, t262⟩, A90, H⟩ := H
        replace H : (some (t259, t262)) = some (r1, r2) := H
        have A9 := Aside0.mk A90
        clear A90
        simp only [Option.some.injEq, Prod.mk.injEq] at H
        obtain ⟨rfl, rfl⟩ := H
        go_enter Try.func57, Try.ntmps57
        go_wp2_with (first | ((with_reducible refine gate_dst (N := 5) rfl ?_); refine box_event ?hg (N := 5) ?hd (cs := #[.bool a2_0, .slice A2_1 l2_1.length c2_1]) (t := 24) ?hr ?_; (case hd => rfl); (case hg => rfl); (case hr => first | (go_simp; done) | (go_simp; rfl)); intro gb247 hg w10 hbox hb; have n0_ := Aside0.mk (below_step (by repeat (first | (with_reducible first | exact HB.out | apply below_alloc | apply pw_below_drewN | apply below_drew1) | exact HB.out)) hb); have n1_ := Aside0.mk (hbox); have n2_ := Aside0.mk ((by rw [hg]; exact (below_size (by repeat (first | (with_reducible first | exact HB.out | apply below_alloc | apply pw_below_drewN | apply below_drew1) | exact HB.out))) : w.heap.size ≤ gb247)); have n3_ := Aside0.mk ((by rw [hg]; exact (below_size (by repeat (first | (with_reducible first | exact HB.out | apply below_alloc | apply pw_below_drewN | apply below_drew1) | exact HB.out))) : w.heap.size ≤ gb247)); clear HB; have HB := n0_; have BK247 := n1_; have GW247 := n2_; have GE247 := n3_; clear n0_ n1_ n2_ n3_; clear hb hbox hg; have hcz11_0 : w10.cell? ⟨gb247, 0, none⟩ = some (.bool a2_0) := (blk_cell BK247.out 0).trans rfl; have hcz11_1 : w10.cell? ⟨gb247, 1, none⟩ = some (.slice A2_1 l2_1.length c2_1) := (blk_cell BK247.out 1).trans rfl; have hfz11_0 := blk_frozen BK247.out 0; have hfz11_1 := blk_frozen BK247.out 1) | ((with_reducible refine gate_callee (f := 74) rfl ?_); refine goesL_ (some 16) rfl rfl Try.func74 (by kernel_rfl) rfl #[.slice A0 l0.length c0, .int .i64 a1, .int .u64 1, .int .i64 1] rfl (by (try simp only [List.map_toArray, List.map_cons, List.map_nil]); first | done | rfl | (simp only [List.length_drop, List.length_take]; rfl)) ?_; (with_reducible refine (pannierref01_Put.calls k _ _ l0 a1 1 1 t248 t249 t250 _ ?side1 ?side2 A5.out).mono ?_); (case side1 => repeat (first | exact (Kd.C_below HR0.out HB.out) | (with_reducible refine Kd.C_alloc ?_ _) | (with_reducible refine Kd.C_drewN ?_ _) | (with_reducible refine Kd.C_drew ?_))); (case side2 => exact HC0.out); rintro e w12 ⟨v251, rfl, ho0, hb⟩; refine ⟨_, rfl, ?_⟩; have n0_ := Aside0.mk (Kd.R_lower ho0 (below_size (by repeat (first | (with_reducible first | exact HB.out | apply below_alloc | apply pw_below_drewN | apply below_drew1 | refine below_set ?_ GE247.out) | exact HB.out)))); have n1_ := Aside0.mk (blk_below (g := gb247) (o := .cells #[.bool a2_0, .slice A2_1 l2_1.length c2_1] 24 (0, 0)) (by (with_reducible repeat (first | refine blk_drewN ?_ _ | refine blk_drew ?_ | refine blk_alloc ?_ _)); exact BK247.out) hb); have n2_ := Aside0.mk (below_step (by repeat (first | (with_reducible first | exact HB.out | apply below_alloc | apply pw_below_drewN | apply below_drew1 | refine below_set ?_ GE247.out) | exact HB.out)) hb); clear BK247; clear HB; have HO252 := n0_; have BK247 := n1_; have HB := n2_; clear n0_ n1_ n2_; (try clear hb); (try clear hb2); (try clear hk); (try clear hi); (try clear ho0); have hcz13_0 : w12.cell? ⟨gb247, 0, none⟩ = some (.bool a2_0) := (blk_cell BK247.out 0).trans rfl; have hcz13_1 : w12.cell? ⟨gb247, 1, none⟩ = some (.slice A2_1 l2_1.length c2_1) := (blk_cell BK247.out 1).trans rfl; have hfz13_0 := blk_frozen BK247.out 0; have hfz13_1 := blk_frozen BK247.out 1; have p253 : 0 ≤ (0 : Int) := (by omega); have q253 : 0 < (l2_1.length : Int) := of_decide_eq_true (by first | (with_reducible assumption) | assumption); obtain ⟨ad253, A253_1, c253_1, e253, hx253_0, hx253_1, hl253_1, hi253_1⟩ := at_T24 HR2_1.out 0 p253 q253; cases e253; have qi253 : (0 < l2_1.length) = True := eq_true (by omega); (try rw [show ((0 : Int)).toNat = 0 from rfl] at hx253_0); (try rw [show 0 * 2 = 0 from rfl] at hx253_0); (try rw [Addr.add_zero'] at hx253_0); (try rw [show ((0 : Int)).toNat = 0 from rfl] at hx253_1); (try rw [show 0 * 2 = 0 from rfl] at hx253_1); (try rw [Addr.add_zero'] at hx253_1); replace hx253_0 := (HB.out.cell (World.block_lt_of_cell? w _ hx253_0)).trans hx253_0; replace hx253_1 := (HB.out.cell (World.block_lt_of_cell? w _ hx253_1)).trans hx253_1; have HR253_1 := Aside0.mk hi253_1; have HC253_1 := Aside0.mk hl253_1; clear hi253_1 hl253_1; replace p253 := eq_true p253; replace q253 := eq_true q253; obtain ⟨Ao14, co14, eo14⟩ := Kd.R_slice HO252.out; subst eo14) | ((with_reducible refine gate_callee (f := 57) rfl ?_); refine goesL_ (some 27) rfl rfl Try.func57 (by kernel_rfl) rfl #[.slice Ao14 t248.length co14, .int .i64 t249, .agg #[.bool ((rd_T24 l2_1 0).f0), .slice A253_1 ((rd_T24 l2_1 0).f1).length c253_1]] rfl (by (try simp only [List.map_toArray, List.map_cons, List.map_nil]); first | done | rfl | (simp only [List.length_drop, List.length_take]; rfl)) ?_; (with_reducible refine (ih k (by omega) _ _ t248 t249 ((rd_T24 l2_1 0).f0) _ _ ((rd_T24 l2_1 0).f1) t254 t257 _ ?side1 ?side2 ?side3 ?side4 A7.out).mono ?_); (case side1 => repeat (first | exact (Kd.R_reads' HO252.out).2.2 | (with_reducible refine Kd.C_alloc ?_ _) | (with_reducible refine Kd.C_drewN ?_ _) | (with_reducible refine Kd.C_drew ?_))); (case side2 => exact (Kd.R_reads' HO252.out).2.1); (case side3 => repeat (first | exact (Kd.C_below HR253_1.out HB.out) | (with_reducible refine Kd.C_alloc ?_ _) | (with_reducible refine Kd.C_drewN ?_ _) | (with_reducible refine Kd.C_drew ?_))); (case side4 => exact HC253_1.out); rintro e w15 ⟨v255, rfl, ho0, hb⟩; refine ⟨_, rfl, ?_⟩; have n0_ := Aside0.mk (Kd.R_elder' (by (with_reducible repeat (first | apply Kd.R_alloc | apply Kd.R_drewN | apply Kd.R_drew)); exact HO252.out) (Kd.R_base ho0) hb); have n1_ := Aside0.mk (Kd.R_lower (Kd.R_new' ho0 (Kd.R_lt (by (with_reducible repeat (first | apply Kd.R_alloc | apply Kd.R_drewN | apply Kd.R_drew)); exact HO252.out))) (below_size (by repeat (first | (with_reducible first | exact HB.out | apply below_alloc | apply pw_below_drewN | apply below_drew1 | refine below_set ?_ GE247.out) | exact HB.out)))); have n2_ := Aside0.mk (blk_below (g := gb247) (o := .cells #[.bool a2_0, .slice (some ad253) l2_1.length c2_1] 24 (0, 0)) (by (with_reducible repeat (first | refine blk_drewN ?_ _ | refine blk_drew ?_ | refine blk_alloc ?_ _)); exact BK247.out) hb); have n3_ := Aside0.mk (below_step (by repeat (first | (with_reducible first | exact HB.out | apply below_alloc | apply pw_below_drewN | apply below_drew1 | refine below_set ?_ GE247.out) | exact HB.out)) hb); clear HO252; clear BK247; clear HB; have HO252 := n0_; have HO256 := n1_; have BK247 := n2_; have HB := n3_; clear n0_ n1_ n2_ n3_; (try clear hb); (try clear hb2); (try clear hk); (try clear hi); (try clear ho0); have hcz16_0 : w15.cell? ⟨gb247, 0, none⟩ = some (.bool a2_0) := (blk_cell BK247.out 0).trans rfl; have hcz16_1 : w15.cell? ⟨gb247, 1, none⟩ = some (.slice (some ad253) l2_1.length c2_1) := (blk_cell BK247.out 1).trans rfl; have hfz16_0 := blk_frozen BK247.out 0; have hfz16_1 := blk_frozen BK247.out 1; have p258 : 0 ≤ (1 : Int) := (by omega); have q258 : 1 < (l2_1.length : Int) := of_decide_eq_true (by first | (with_reducible assumption) | assumption); obtain ⟨ad258, A258_1, c258_1, e258, hx258_0, hx258_1, hl258_1, hi258_1⟩ := at_T24 HR2_1.out 1 p258 q258; obtain rfl : ad253 = ad258 := (by injection e258); (try simp only [show (1 : Int).toNat = 1 from rfl, Nat.reduceMul, Nat.reduceEqDiff, Go.Addr.add, ↓reduceIte] at hx258_0); (try simp only [show (1 : Int).toNat = 1 from rfl, Nat.reduceMul, Nat.reduceEqDiff, Go.Addr.add, ↓reduceIte] at hx258_1); have qi258 : (1 < l2_1.length) = True := eq_true (by omega); (try rw [show ((1 : Int)).toNat = 1 from rfl] at hx258_0); (try rw [show 1 * 2 = 2 from rfl] at hx258_0); (try rw [show ((1 : Int)).toNat = 1 from rfl] at hx258_1); (try rw [show 1 * 2 = 2 from rfl] at hx258_1); replace hx258_0 := (HB.out.cell (World.block_lt_of_cell? w _ hx258_0)).trans hx258_0; replace hx258_1 := (HB.out.cell (World.block_lt_of_cell? w _ hx258_1)).trans hx258_1; have HR258_1 := Aside0.mk hi258_1; have HC258_1 := Aside0.mk hl258_1; clear hi258_1 hl258_1; replace p258 := eq_true p258; replace q258 := eq_true q258; obtain ⟨Ao17, co17, eo17⟩ := Kd.R_slice HO256.out; subst eo17) | ((with_reducible refine gate_callee (f := 57) rfl ?_); refine goesL_ (some 36) rfl rfl Try.func57 (by kernel_rfl) rfl #[.slice Ao17 t254.length co17, .int .i64 t257, .agg #[.bool ((rd_T24 l2_1 1).f0), .slice A258_1 ((rd_T24 l2_1 1).f1).length c258_1]] rfl (by (try simp only [List.map_toArray, List.map_cons, List.map_nil]); first | done | rfl | (simp only [List.length_drop, List.length_take]; rfl)) ?_; (with_reducible refine (ih k (by omega) _ _ t254 t257 ((rd_T24 l2_1 1).f0) _ _ ((rd_T24 l2_1 1).f1) t259 t262 _ ?side1 ?side2 ?side3 ?side4 A9.out).mono ?_); (case side1 => repeat (first | exact (Kd.R_reads' HO256.out).2.2 | (with_reducible refine Kd.C_alloc ?_ _) | (with_reducible refine Kd.C_drewN ?_ _) | (with_reducible refine Kd.C_drew ?_))); (case side2 => exact (Kd.R_reads' HO256.out).2.1); (case side3 => repeat (first | exact (Kd.C_below HR258_1.out HB.out) | (with_reducible refine Kd.C_alloc ?_ _) | (with_reducible refine Kd.C_drewN ?_ _) | (with_reducible refine Kd.C_drew ?_))); (case side4 => exact HC258_1.out); rintro e w18 ⟨v260, rfl, ho0, hb⟩; refine ⟨_, rfl, ?_⟩; have n0_ := Aside0.mk (Kd.R_elder' (by (with_reducible repeat (first | apply Kd.R_alloc | apply Kd.R_drewN | apply Kd.R_drew)); exact HO252.out) (Kd.R_base ho0) hb); have n1_ := Aside0.mk (Kd.R_elder' (by (with_reducible repeat (first | apply Kd.R_alloc | apply Kd.R_drewN | apply Kd.R_drew)); exact HO256.out) (Kd.R_base ho0) hb); have n2_ := Aside0.mk (Kd.R_lower (Kd.R_new' (Kd.R_new' ho0 (Kd.R_lt (by (with_reducible repeat (first | apply Kd.R_alloc | apply Kd.R_drewN | apply Kd.R_drew)); exact HO252.out))) (Kd.R_lt (by (with_reducible repeat (first | apply Kd.R_alloc | apply Kd.R_drewN | apply Kd.R_drew)); exact HO256.out))) (below_size (by repeat (first | (with_reducible first | exact HB.out | apply below_alloc | apply pw_below_drewN | apply below_drew1 | refine below_set ?_ GE247.out) | exact HB.out)))); have n3_ := Aside0.mk (blk_below (g := gb247) (o := .cells #[.bool a2_0, .slice (some ad253) l2_1.length c2_1] 24 (0, 0)) (by (with_reducible repeat (first | refine blk_drewN ?_ _ | refine blk_drew ?_ | refine blk_alloc ?_ _)); exact BK247.out) hb); have n4_ := Aside0.mk (below_step (by repeat (first | (with_reducible first | exact HB.out | apply below_alloc | apply pw_below_drewN | apply below_drew1 | refine below_set ?_ GE247.out) | exact HB.out)) hb); clear HO252; clear HO256; clear BK247; clear HB; have HO252 := n0_; have HO256 := n1_; have HO261 := n2_; have BK247 := n3_; have HB := n4_; clear n0_ n1_ n2_ n3_ n4_; (try clear hb); (try clear hb2); (try clear hk); (try clear hi); (try clear ho0)))
        go_ret2
        exact ⟨_, by first | rfl | (simp [errW_none, errW_some] <;> rfl) | (simp [*, errW_none, errW_some] <;> rfl), by (with_reducible repeat (first | apply Kd.R_alloc | apply Kd.R_drewN | apply Kd.R_drew)); exact Kd.R_mono HO261.out (fun _ hk => trivial), by repeat (first | (with_reducible first | exact HB.out | apply below_alloc | apply pw_below_drewN | apply below_drew1 | refine below_set ?_ GE247.out) | exact HB.out)⟩
      · rw [if_neg c8] at H
        exact absurd H (by simp)
    · rw [if_neg c6] at H
      exact absurd H (by simp)
  · rw [if_neg c4] at H
    have c4b0 : ((l2_1.length : Int) == 2) = false := beq_eq_false_iff_ne.mpr c4
    have c4b1 : ((l2_1.length : Int) != 2) = true := bne_iff_ne.mpr c4
    by_cases c19 : a2_0 = true
    · subst c19
      have H1 : ((pannierref01_Put.f k l0 a1 1 2).bind fun bt263 => (some (bt263.1, bt263.2.1))) = some (r1, r2) := by rw [if_pos rfl] at H; exact H
      clear H
      have H := H1
      clear H1
      replace H := Option.bind_eq_some_iff.mp H
      obtain ⟨⟨t263, t264, t265⟩, A200, H⟩ := H
      replace H : (some (t263, t264)) = some (r1, r2) := H
      have A20 := Aside0.mk A200
      clear A200
      simp only [Option.some.injEq, Prod.mk.injEq] at H
      obtain ⟨rfl, rfl⟩ := H
      go_enter Try.func57, Try.ntmps57
      go_wp2_with (first | ((with_reducible refine gate_dst (N := 5) rfl ?_); refine box_event ?hg (N := 5) ?hd (cs := #[.bool true, .slice A2_1 l2_1.length c2_1]) (t := 24) ?hr ?_; (case hd => rfl); (case hg => rfl); (case hr => first | (go_simp; done) | (go_simp; rfl)); intro gb247 hg w21 hbox hb; have n0_ := Aside0.mk (below_step (by repeat (first | (with_reducible first | exact HB.out | apply below_alloc | apply pw_below_drewN | apply below_drew1) | exact HB.out)) hb); have n1_ := Aside0.mk (hbox); have n2_ := Aside0.mk ((by rw [hg]; exact (below_size (by repeat (first | (with_reducible first | exact HB.out | apply below_alloc | apply pw_below_drewN | apply below_drew1) | exact HB.out))) : w.heap.size ≤ gb247)); have n3_ := Aside0.mk ((by rw [hg]; exact (below_size (by repeat (first | (with_reducible first | exact HB.out | apply below_alloc | apply pw_below_drewN | apply below_drew1) | exact HB.out))) : w.heap.size ≤ gb247)); clear HB; have HB := n0_; have BK247 := n1_; have GW247 := n2_; have GE247 := n3_; clear n0_ n1_ n2_ n3_; clear hb hbox hg; have hcz22_0 : w21.cell? ⟨gb247, 0, none⟩ = some (.bool true) := (blk_cell BK247.out 0).trans rfl; have hcz22_1 : w21.cell? ⟨gb247, 1, none⟩ = some (.slice A2_1 l2_1.length c2_1) := (blk_cell BK247.out 1).trans rfl; have hfz22_0 := blk_frozen BK247.out 0; have hfz22_1 := blk_frozen BK247.out 1) | ((with_reducible refine gate_callee (f := 74) rfl ?_); refine goesL_ (some 45) rfl rfl Try.func74 (by kernel_rfl) rfl #[.slice A0 l0.length c0, .int .i64 a1, .int .u64 1, .int .i64 2] rfl (by (try simp only [List.map_toArray, List.map_cons, List.map_nil]); first | done | rfl | (simp only [List.length_drop, List.length_take]; rfl)) ?_; (with_reducible refine (pannierref01_Put.calls k _ _ l0 a1 1 2 t263 t264 t265 _ ?side1 ?side2 A20.out).mono ?_); (case side1 => repeat (first | exact (Kd.C_below HR0.out HB.out) | (with_reducible refine Kd.C_alloc ?_ _) | (with_reducible refine Kd.C_drewN ?_ _) | (with_reducible refine Kd.C_drew ?_))); (case side2 => exact HC0.out); rintro e w23 ⟨v266, rfl, ho0, hb⟩; refine ⟨_, rfl, ?_⟩; have n0_ := Aside0.mk (Kd.R_lower ho0 (below_size (by repeat (first | (with_reducible first | exact HB.out | apply below_alloc | apply pw_below_drewN | apply below_drew1 | refine below_set ?_ GE247.out) | exact HB.out)))); have n1_ := Aside0.mk (blk_below (g := gb247) (o := .cells #[.bool true, .slice A2_1 l2_1.length c2_1] 24 (0, 0)) (by (with_reducible repeat (first | refine blk_drewN ?_ _ | refine blk_drew ?_ | refine blk_alloc ?_ _)); exact BK247.out) hb); have n2_ := Aside0.mk (below_step (by repeat (first | (with_reducible first | exact HB.out | apply below_alloc | apply pw_below_drewN | apply below_drew1 | refine below_set ?_ GE247.out) | exact HB.out)) hb); clear BK247; clear HB; have HO267 := n0_; have BK247 := n1_; have HB := n2_; clear n0_ n1_ n2_; (try clear hb); (try clear hb2); (try clear hk); (try clear hi); (try clear ho0)))
      go_ret2
      exact ⟨_, by first | rfl | (simp [errW_none, errW_some] <;> rfl) | (simp [*, errW_none, errW_some] <;> rfl), by (with_reducible repeat (first | apply Kd.R_alloc | apply Kd.R_drewN | apply Kd.R_drew)); exact HO267.out, by repeat (first | (with_reducible first | exact HB.out | apply below_alloc | apply pw_below_drewN | apply below_drew1 | refine below_set ?_ GE247.out) | exact HB.out)⟩
    · replace c19 := Bool.eq_false_iff.mpr c19
      subst c19
      have H1 : ((pannierref01_Put.f k l0 a1 0 2).bind fun bt268 => (some (bt268.1, bt268.2.1))) = some (r1, r2) := by rw [if_neg (show ¬ (false = true) by decide)] at H; exact H
      clear H
      have H := H1
      clear H1
      replace H := Option.bind_eq_some_iff.mp H
      obtain ⟨⟨t268, t269, t270⟩, A240, H⟩ := H
      replace H : (some (t268, t269)) = some (r1, r2) := H
      have A24 := Aside0.mk A240
      clear A240
      simp only [Option.some.injEq, Prod.mk.injEq] at H
      obtain ⟨rfl, rfl⟩ := H
      go_enter Try.func57, Try.ntmps57
      go_wp2_with (first | ((with_reducible refine gate_dst (N := 5) rfl ?_); refine box_event ?hg (N := 5) ?hd (cs := #[.bool false, .slice A2_1 l2_1.length c2_1]) (t := 24) ?hr ?_; (case hd => rfl); (case hg => rfl); (case hr => first | (go_simp; done) | (go_simp; rfl)); intro gb247 hg w25 hbox hb; have n0_ := Aside0.mk (below_step (by repeat (first | (with_reducible first | exact HB.out | apply below_alloc | apply pw_below_drewN | apply below_drew1) | exact HB.out)) hb); have n1_ := Aside0.mk (hbox); have n2_ := Aside0.mk ((by rw [hg]; exact (below_size (by repeat (first | (with_reducible first | exact HB.out | apply below_alloc | apply pw_below_drewN | apply below_drew1) | exact HB.out))) : w.heap.size ≤ gb247)); have n3_ := Aside0.mk ((by rw [hg]; exact (below_size (by repeat (first | (with_reducible first | exact HB.out | apply below_alloc | apply pw_below_drewN | apply below_drew1) | exact HB.out))) : w.heap.size ≤ gb247)); clear HB; have HB := n0_; have BK247 := n1_; have GW247 := n2_; have GE247 := n3_; clear n0_ n1_ n2_ n3_; clear hb hbox hg; have hcz26_0 : w25.cell? ⟨gb247, 0, none⟩ = some (.bool false) := (blk_cell BK247.out 0).trans rfl; have hcz26_1 : w25.cell? ⟨gb247, 1, none⟩ = some (.slice A2_1 l2_1.length c2_1) := (blk_cell BK247.out 1).trans rfl; have hfz26_0 := blk_frozen BK247.out 0; have hfz26_1 := blk_frozen BK247.out 1) | ((with_reducible refine gate_callee (f := 74) rfl ?_); refine goesL_ (some 45) rfl rfl Try.func74 (by kernel_rfl) rfl #[.slice A0 l0.length c0, .int .i64 a1, .int .u64 0, .int .i64 2] rfl (by (try simp only [List.map_toArray, List.map_cons, List.map_nil]); first | done | rfl | (simp only [List.length_drop, List.length_take]; rfl)) ?_; (with_reducible refine (pannierref01_Put.calls k _ _ l0 a1 0 2 t268 t269 t270 _ ?side1 ?side2 A24.out).mono ?_); (case side1 => repeat (first | exact (Kd.C_below HR0.out HB.out) | (with_reducible refine Kd.C_alloc ?_ _) | (with_reducible refine Kd.C_drewN ?_ _) | (with_reducible refine Kd.C_drew ?_))); (case side2 => exact HC0.out); rintro e w27 ⟨v271, rfl, ho0, hb⟩; refine ⟨_, rfl, ?_⟩; have n0_ := Aside0.mk (Kd.R_lower ho0 (below_size (by repeat (first | (with_reducible first | exact HB.out | apply below_alloc | apply pw_below_drewN | apply below_drew1 | refine below_set ?_ GE247.out) | exact HB.out)))); have n1_ := Aside0.mk (blk_below (g := gb247) (o := .cells #[.bool false, .slice A2_1 l2_1.length c2_1] 24 (0, 0)) (by (with_reducible repeat (first | refine blk_drewN ?_ _ | refine blk_drew ?_ | refine blk_alloc ?_ _)); exact BK247.out) hb); have n2_ := Aside0.mk (below_step (by repeat (first | (with_reducible first | exact HB.out | apply below_alloc | apply pw_below_drewN | apply below_drew1 | refine below_set ?_ GE247.out) | exact HB.out)) hb); clear BK247; clear HB; have HO272 := n0_; have BK247 := n1_; have HB := n2_; clear n0_ n1_ n2_; (try clear hb); (try clear hb2); (try clear hk); (try clear hi); (try clear ho0)))
      go_ret2
      exact ⟨_, by first | rfl | (simp [errW_none, errW_some] <;> rfl) | (simp [*, errW_none, errW_some] <;> rfl), by (with_reducible repeat (first | apply Kd.R_alloc | apply Kd.R_drewN | apply Kd.R_drew)); exact HO272.out, by repeat (first | (with_reducible first | exact HB.out | apply below_alloc | apply pw_below_drewN | apply below_drew1 | refine below_set ?_ GE247.out) | exact HB.out)⟩

end Go.Proofs.Ytlhaofbncoijfaa.X
