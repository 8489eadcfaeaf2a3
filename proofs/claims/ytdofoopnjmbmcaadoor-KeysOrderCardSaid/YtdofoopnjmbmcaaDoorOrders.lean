/- Regions that draw their order, inside a round of a range over a function; and loads taken first where the region's one store comes behind them. No program is named here. -/
import Derived.OrdersHeld
import Derived.OrdersIn
import Derived.Test.YtdofoopnjmbmcaaDoorRange
namespace Go.Proofs.YtdofoopnjmbmcaaDoor.Orders
set_option linter.unusedVariables false
set_option linter.unusedSimpArgs false
open Go Go.RowKit
section transfer
variable {l n : Nat} {P : Program} {ops : Array Oper} {Q : Exit → Act → World → Prop} {md : Region.Mode}

theorem oper_wpIn {o : Oper} {a : Act} {w : World} {K : Act → World → Prop} (hd : ∀ c, o.op ≠ .defer c) (h : o.wp P a w K Q) : o.wpIn (Fence.wide.inRound l) n P a w K Q := by
  unfold Oper.wp at h
  unfold Oper.wpIn
  refine ⟨fun _ _ => trivial, ?_⟩
  rw [show (Fence.wide.inRound l).round = some l from rfl, Oper.semAt_some l _ _ hd]
  generalize (execOp a.eval o).run P w = r at h
  cases r with
  | ok x w' =>
    cases x <;> simp only [Oper.upon, Oper.uponIn] at h ⊢
    case value v => exact h
    case skip => exact h
    case defer d => exact h
    case enter f args =>
      refine ⟨fun h0 => by simp [Fence.wide, Fence.inRound] at h0, CallsIn.inRound l (callsIn_wide.2 (Calls.mono h fun e w'' he => ?_))⟩
      cases e <;> exact he
    case row r args =>
      refine ⟨fun h0 => by simp [Fence.wide, Fence.inRound] at h0, fun c cs _ => ?_⟩
      obtain ⟨v, w1, r1, s1⟩ := h c cs
      exact ⟨v, w1, r1, stepsIn_wide.2 s1⟩
  | halt x w' => cases x <;> simp only [Oper.upon, Oper.uponIn] at h ⊢ <;> exact h

theorem wpAnyIn_of_any (hd : ∀ (i : Nat) o, ops[i]? = some o → ∀ c, o.op ≠ .defer c) (hL : ¬ LetsOut Q) :
    ∀ (fuel : Nat) (listed : Array Bool) (a : Act) (w : World), wpAny P md ops Q fuel listed a w → wpAnyIn (Fence.wide.inRound l) n P md ops Q fuel listed a w
  | 0, _, _, _, h => h
  | fuel + 1, listed, a, w, h => ⟨h.1, fun i hi => by
      have h2 := wpOp_mono (fun a' w' h' => wpAnyIn_of_any hd hL fuel (listed.setIfInBounds i true) a' w' h') (h.2 i hi)
      unfold wpOp at h2
      unfold wpOpIn
      cases ho : ops[i]? with
      | none => simp only [ho] at h2 ⊢; exact h2
      | some o =>
        simp only [ho] at h2 ⊢
        split
        · rename_i hw
          simp only [hw, if_true] at h2
          rcases h2 with h2 | h2
          · exact oper_wpIn (hd i o ho) h2
          · exact absurd h2.2 hL
        · rename_i hw
          simp only [hw] at h2
          exact ⟨fun _ _ => trivial, h2⟩⟩

def noDefer (ops : Array Oper) : Bool := ops.all fun o => match o.op with | .defer _ => false | _ => true
theorem noDefer_spec (h : noDefer ops = true) : ∀ (i : Nat) o, ops[i]? = some o → ∀ c, o.op ≠ .defer c := by
  intro i o ho c hc
  obtain ⟨hi, rfl⟩ := Array.getElem?_eq_some_iff.1 ho
  have := (Array.all_eq_true.1 h) i hi
  rw [hc] at this
  cases this

/-- A region that draws, in a round: by the plain law. -/
theorem wpIn_region_of_any {id : Nat} {a : Act} {w : World} (hm : P.follows .mixedOrders = true) (hd : noDefer ops = true) (hL : ¬ LetsOut Q)
    (h : wpAny P .any ops Q ops.size (Array.replicate ops.size false) a w.drew) : (Code.region id ops true).wpIn (Fence.wide.inRound l) n P Q a w :=
  wpIn_region_any hm (wpAnyIn_of_any (noDefer_spec hd) hL _ _ _ _ h)
end transfer

section held
variable {P : Program} {ops : Array Oper} {Q : Exit → Act → World → Prop} {md : Region.Mode} {S : World → Prop} {g : Nat}

/-- Till operation g has come up, the world meets S. -/
def Sat (S : World → Prop) (g : Nat) (listed : Array Bool) (w : World) : Prop := listed.getD g true = false → S w

def wpAnyG (P : Program) (md : Region.Mode) (ops : Array Oper) (Q : Exit → Act → World → Prop) (S : World → Prop) (g : Nat) : Nat → Array Bool → Act → World → Prop
  | 0, listed, a, w => Region.ready md ops listed = [] ∧ Q .normal a w
  | fuel + 1, listed, a, w =>
    (Region.ready md ops listed = [] → Q .normal a w) ∧
    ∀ i ∈ Region.ready md ops listed, wpOp P ops Q i (fun a' w' => Sat S g (listed.setIfInBounds i true) w' ∧ wpAnyG P md ops Q S g fuel (listed.setIfInBounds i true) a' w') a w

theorem wpAny_of_G : ∀ (fuel : Nat) (listed : Array Bool) (a : Act) (w : World), wpAnyG P md ops Q S g fuel listed a w → wpAny P md ops Q fuel listed a w
  | 0, _, _, _, h => h
  | fuel + 1, _, _, _, h => ⟨h.1, fun i hi => wpOp_mono (fun a' w' h' => wpAny_of_G fuel _ a' w' h'.2) (h.2 i hi)⟩

theorem ready_not {listed : Array Bool} {i j : Nat} {oj : Oper} (hr : i ∈ Region.ready md ops listed) (hoj : ops[j]? = some oj) (hj : j ∈ Region.ready md ops listed) : ∀ e ∈ oj.after, Region.binds md e = true → e.on ≠ i := by
  obtain ⟨_, oj', hoj', hall⟩ := mem_ready.1 hj
  rw [hoj] at hoj'
  cases hoj'
  intro e he hb heq
  have h1 := hall e he hb
  have h0 := (mem_ready.1 hr).1
  rw [heq] at h1
  rcases Nat.lt_or_ge i listed.size with h' | h'
  · simp [h'] at h0 h1; rw [h0] at h1; cases h1
  · simp [Array.getElem?_eq_none h'] at h1

theorem wpAnyG_first {i : Nat} {oi og : Oper} {v : Value} (hi : ops[i]? = some oi) (hg : ops[g]? = some og) (hig : i ≠ g) (hw : ∃ e ∈ og.after, Region.binds md e = true ∧ e.on = i)
    (hsel : ∀ (j : Nat) (o : Oper) cs b, ops[j]? = some o → o.op ≠ .select cs b)
    (hQ : ∀ c a w, Q (.panic c) (a.put oi.dst v) w → Q (.panic c) a w) :
    ∀ (fuel : Nat) (listed : Array Bool) (a : Act) (w : World),
      (∀ j oj, ops[j]? = some oj → j ≠ i → listed.getD j true = false → (∀ e ∈ oj.after, Region.binds md e = true → e.on ≠ i) → oi.apart ops oj = true) →
      i ∈ Region.ready md ops listed → listed.getD g true = false → YieldsIf P ops S oi v a → S w →
      wpAnyG P md ops Q S g fuel (listed.setIfInBounds i true) (a.put oi.dst v) w → wpAnyG P md ops Q S g (fuel + 1) listed a w := by
  intro fuel
  induction fuel with
  | zero =>
    intro listed a w _ hr hgl hy hS H
    refine ⟨fun h => (by rw [h] at hr; cases hr), fun j hj => ?_⟩
    by_cases hji : j = i
    · subst hji; exact hy.wpOp hi hS ⟨fun _ => hS, H⟩
    · have := ready_mono hj hji
      rw [H.1] at this
      cases this
  | succ fuel ih =>
    intro listed a w hfree hr hgl hy hS H
    refine ⟨fun h => (by rw [h] at hr; cases hr), fun j hj => ?_⟩
    by_cases hji : j = i
    · subst hji; exact hy.wpOp hi hS ⟨fun _ => hS, H⟩
    · have h1 := H.2 j (ready_mono hj hji)
      obtain ⟨hjun, oj, hoj, hall⟩ := mem_ready.1 hj
      have hnot := ready_not hr hoj hj
      have hjg : j ≠ g := fun e => by
        subst e
        rw [hg] at hoj
        cases hoj
        obtain ⟨e, he, hb, heq⟩ := hw
        exact hnot e he hb heq
      have h2 := wpOp_putIf hoj (hfree j oj hoj hji hjun hnot) (fun cs b => hsel i oi cs b hi) (fun cs b => hsel j oj cs b hoj) hQ hy h1
      have hfree' : ∀ k ok, ops[k]? = some ok → k ≠ i → (listed.setIfInBounds j true).getD k true = false →
          (∀ e ∈ ok.after, Region.binds md e = true → e.on ≠ i) → oi.apart ops ok = true := fun k ok hk hki hun hno => by
        refine hfree k ok hk hki ?_ hno
        by_cases hjk : j = k
        · subst hjk; exact hjun
        · rw [getD_set_ne true hjk] at hun; exact hun
      have hgl' : (listed.setIfInBounds j true).getD g true = false := by rw [getD_set_ne true hjg]; exact hgl
      refine wpOp_mono (fun a' w' h3 => ?_) h2
      have hS' : S w' := h3.2.1 (by rw [getD_set_ne true hjg, getD_set_ne true hig]; exact hgl)
      refine ⟨fun _ => hS', ih (listed.setIfInBounds j true) a' w' hfree' (ready_mono hr (Ne.symm hji)) hgl' h3.1 hS' ?_⟩
      rw [Array.setIfInBounds_comm _ _ hji]
      exact h3.2.2

def waits (md : Region.Mode) (ops : Array Oper) (g i : Nat) : Bool := match ops[g]? with | some og => og.after.any fun e => Region.binds md e && e.on == i | none => false

/-- Take number i first: it yields v in every world that meets S; operation g waits for it. -/
theorem wpAnyG_take {i : Nat} {oi : Oper} {v : Value} {fuel : Nat} {listed : Array Bool} {a : Act} {w : World} (hi : ops[i]? = some oi)
    (hc : (Region.noSelect ops && Region.free md ops listed i && (Region.ready md ops listed).contains i && waits md ops g i && (i != g) && !listed.getD g true) = true)
    (hQ : ∀ c a w, Q (.panic c) (a.put oi.dst v) w → Q (.panic c) a w) (hy : YieldsIf P ops S oi v a) (hS : S w)
    (h : wpAnyG P md ops Q S g fuel (listed.setIfInBounds i true) (a.put oi.dst v) w) : wpAnyG P md ops Q S g (fuel + 1) listed a w := by
  simp only [Bool.and_eq_true] at hc
  obtain ⟨⟨⟨⟨⟨h1, h2⟩, h3⟩, h4⟩, h5⟩, h6⟩ := hc
  cases hg : ops[g]? with
  | none => unfold waits at h4; rw [hg] at h4; cases h4
  | some og =>
    unfold waits at h4
    rw [hg] at h4
    obtain ⟨e, he, hb⟩ := Array.any_eq_true'.1 h4
    simp only [Bool.and_eq_true, beq_iff_eq] at hb
    exact wpAnyG_first hi hg (by simpa using h5) ⟨e, he, hb.1, hb.2⟩ (Region.noSelect_spec h1) hQ fuel listed a w (Region.free_spec hi h2) (by simpa using h3) (by simpa using h6) hy hS h

/-- One alone may come up. -/
theorem wpAnyG_next {i : Nat} {o : Oper} {fuel : Nat} {listed : Array Bool} {a : Act} {w : World} (hi : ops[i]? = some o) (hr : Region.ready md ops listed = [i])
    (h : if Region.wanted o (yielded ops a.tmps) = true then o.wp P a w (fun a' w' => Sat S g (listed.setIfInBounds i true) w' ∧ wpAnyG P md ops Q S g fuel (listed.setIfInBounds i true) a' w') Q
      else Sat S g (listed.setIfInBounds i true) w ∧ wpAnyG P md ops Q S g fuel (listed.setIfInBounds i true) (a.put o.dst undef) w) : wpAnyG P md ops Q S g (fuel + 1) listed a w := by
  refine ⟨fun h0 => (by rw [hr] at h0; cases h0), fun j hj => ?_⟩
  rw [hr] at hj
  obtain rfl : j = i := by simpa using hj
  unfold wpOp
  simp only [hi]
  split
  · rename_i hw
    rw [if_pos hw] at h
    exact .inl h
  · rename_i hw
    rw [if_neg hw] at h
    exact h

/-- .. and it hands back a value, whatever becomes of the world. -/
theorem wpAnyG_run {i : Nat} {o : Oper} {v : Value} {fuel : Nat} {listed : Array Bool} {a : Act} {w w1 : World} (hi : ops[i]? = some o) (hr : Region.ready md ops listed = [i])
    (hw : Region.wanted o (yielded ops a.tmps) = true) (hrun : (execOp a.eval o).run P w = .ok (.value v) w1) (hS : Sat S g (listed.setIfInBounds i true) w1)
    (h : wpAnyG P md ops Q S g fuel (listed.setIfInBounds i true) (a.put o.dst v) w1) : wpAnyG P md ops Q S g (fuel + 1) listed a w := by
  refine wpAnyG_next hi hr ?_
  rw [if_pos hw]
  unfold Oper.wp
  rw [hrun]
  exact ⟨hS, h⟩
theorem wpAnyG_runs {i : Nat} {o : Oper} {fuel : Nat} {listed : Array Bool} {a : Act} {w w1 : World} (hi : ops[i]? = some o) (hr : Region.ready md ops listed = [i])
    (hw : Region.wanted o (yielded ops a.tmps) = true) (hrun : (execOp a.eval o).run P w = .ok .skip w1) (hS : Sat S g (listed.setIfInBounds i true) w1)
    (h : wpAnyG P md ops Q S g fuel (listed.setIfInBounds i true) (a.put o.dst undef) w1) : wpAnyG P md ops Q S g (fuel + 1) listed a w := by
  refine wpAnyG_next hi hr ?_
  rw [if_pos hw]
  unfold Oper.wp
  rw [hrun]
  exact ⟨hS, h⟩

theorem wpAnyG_done {listed : Array Bool} {a : Act} {w : World} (hr : Region.ready md ops listed = []) (h : Q .normal a w) :
    ∀ fuel, wpAnyG P md ops Q S g fuel listed a w
  | 0 => ⟨hr, h⟩
  | _ + 1 => ⟨fun _ => h, by rw [hr]; simp⟩
end held
end Go.Proofs.YtdofoopnjmbmcaaDoor.Orders
