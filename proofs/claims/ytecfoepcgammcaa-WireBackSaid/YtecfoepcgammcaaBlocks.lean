/- Small laws on blocks: blocks of one and two cells, and what a stretch of code leaves as it was, told by the blocks' types. No program is named here. -/
import Derived.OneCell
import Derived.Below
import Derived.Deep.Draws
import Derived.RangeFuncOwn
namespace Go.Proofs.Ytecfoepcgammcaa.Blocks
set_option linter.unusedVariables false
set_option linter.unusedSimpArgs false
open Go Go.RowKit
variable {w W W' : World} {b t : Nat}

theorem lt_of {o : Obj} (h : W.heap[b]? = some o) : b < W.heap.size := (Array.getElem?_eq_some_iff.1 h).1
theorem alloc_at {o : Obj} (h : W.heap[b]? = some o) (o' : Obj) : (W.alloc o').heap[b]? = some o := (Below.heap_alloc W o' b (lt_of h)).trans h
theorem alloc_new (W : World) (o : Obj) : (W.alloc o).heap[W.heap.size]? = some o := by
  show (W.heap.push o)[W.heap.size]? = some o
  simp
theorem drew_at (W : World) (b : Nat) : W.drew.heap[b]? = W.heap[b]? := rfl

theorem cell0 {x y : Value} (h : W.heap[b]? = some (.cells #[x, y] t (0, 0))) : W.cell? ⟨b, 0, none⟩ = some x := by simp [World.cell?, h]
theorem cell1 {x y : Value} (h : W.heap[b]? = some (.cells #[x, y] t (0, 0))) : W.cell? ⟨b, 1, none⟩ = some y := by simp [World.cell?, h]
theorem free2 {x y : Value} (h : W.heap[b]? = some (.cells #[x, y] t (0, 0))) (o : Nat) : W.frozen? ⟨b, o, none⟩ = false := by simp [World.frozen?, h]
theorem free1 {x : Value} (h : W.heap[b]? = some (.cells #[x] t (0, 0))) (o : Nat) : W.frozen? ⟨b, o, none⟩ = false := by simp [World.frozen?, h]
theorem set0 {x y u : Value} (h : W.heap[b]? = some (.cells #[x, y] t (0, 0))) : (W.setCell ⟨b, 0, none⟩ u).heap[b]? = some (.cells #[u, y] t (0, 0)) := by
  have hlt := lt_of h
  have h' : W.heap[b] = .cells #[x, y] t (0, 0) := by simpa [Array.getElem?_eq_getElem hlt] using h
  show (W.heap.modify b _)[b]? = _
  rw [Array.getElem?_eq_getElem (by simpa using hlt), Array.getElem_modify_self, h']
  rfl
theorem set1 {x y u : Value} (h : W.heap[b]? = some (.cells #[x, y] t (0, 0))) : (W.setCell ⟨b, 1, none⟩ u).heap[b]? = some (.cells #[x, u] t (0, 0)) := by
  have hlt := lt_of h
  have h' : W.heap[b] = .cells #[x, y] t (0, 0) := by simpa [Array.getElem?_eq_getElem hlt] using h
  show (W.heap.modify b _)[b]? = _
  rw [Array.getElem?_eq_getElem (by simpa using hlt), Array.getElem_modify_self, h']
  rfl
theorem set_other {a : Addr} {u : Value} (h : b ≠ a.block) : (W.setCell a u).heap[b]? = W.heap[b]? := Below.heap_setCell W a u b h
theorem size_set (W : World) (a : Addr) (u : Value) : (W.setCell a u).heap.size = W.heap.size := by
  show (W.heap.modify _ _).size = _
  rw [Array.size_modify]
/-- A store keeps a block's type. -/
theorem set_typed {c : Array Value} {fr : Nat × Nat} (h : W.heap[b]? = some (.cells c t fr)) (o : Nat) (u : Value) : ∃ c', (W.setCell ⟨b, o, none⟩ u).heap[b]? = some (.cells c' t fr) := by
  have hlt := lt_of h
  have h' : W.heap[b] = .cells c t fr := by simpa [Array.getElem?_eq_getElem hlt] using h
  refine ⟨c.setIfInBounds o u, ?_⟩
  show (W.heap.modify b _)[b]? = _
  rw [Array.getElem?_eq_getElem (by simpa using hlt), Array.getElem_modify_self, h']
  rfl

/-- Every block of cells that lay and is of none of the types ts lies as it lay. -/
def KeepsTy (ts : List Nat) (W W' : World) : Prop := ∀ (k : Nat) (c : Array Value) (t : Nat) (fr : Nat × Nat), t ∉ ts → W.heap[k]? = some (.cells c t fr) → W'.heap[k]? = some (.cells c t fr)
theorem KeepsTy.refl (ts : List Nat) (W : World) : KeepsTy ts W W := fun _ _ _ _ _ h => h
theorem KeepsTy.trans {ts : List Nat} {A B C : World} (h : KeepsTy ts A B) (k : KeepsTy ts B C) : KeepsTy ts A C := fun i c t fr ht hi => k i c t fr ht (h i c t fr ht hi)
theorem KeepsTy.alloc (ts : List Nat) (W : World) (o : Obj) : KeepsTy ts W (W.alloc o) := fun _ _ _ _ _ h => alloc_at h o
theorem KeepsTy.drew (ts : List Nat) (W : World) : KeepsTy ts W W.drew := fun _ _ _ _ _ h => h
theorem KeepsTy.drewN (ts : List Nat) (W : World) (m : Nat) : KeepsTy ts W (W.drewN m) := fun _ _ _ _ _ h => h
theorem KeepsTy.setCell {ts : List Nat} {c : Array Value} {fr : Nat × Nat} (h : W.heap[b]? = some (.cells c t fr)) (ht : t ∈ ts) (o : Nat) (u : Value) : KeepsTy ts W (W.setCell ⟨b, o, none⟩ u) := fun k c' t' fr' ht' hk => by
  by_cases e : k = b
  · subst e
    rw [h] at hk
    injection hk with hk
    injection hk with _ hk _
    exact absurd (hk ▸ ht) ht'
  · exact (set_other (a := ⟨b, o, none⟩) e).trans hk
theorem KeepsTy.of_grownBy {ts : List Nat} {row : Option Nat} (hg : W.grownBy W' row) (hrow : ∀ j, row = some j → ∃ c t fr, t ∈ ts ∧ W.heap[j]? = some (.cells c t fr)) : KeepsTy ts W W' := fun k c t fr ht hk => by
  refine (hg.block k (lt_of hk) fun e => ?_).trans hk
  obtain ⟨c', t', fr', ht', hj⟩ := hrow k e.symm
  rw [hk] at hj
  injection hj with hj
  injection hj with _ hj _
  exact ht (hj ▸ ht')
theorem KeepsTy.of_grownBy_other {row : Option Nat} (hg : W.grownBy W' row) (hr : ∀ r, row = some r → ∃ o : Obj, W.heap[r]? = some o ∧ o.isCells = false) : KeepsTy [] W W' := fun k c t fr _ h => by
  refine (hg.block k (lt_of h) fun e => ?_).trans h
  obtain ⟨o, ho, hc⟩ := hr k e.symm
  rw [h] at ho
  cases ho
  cases hc
theorem KeepsTy.putObj {ts : List Nat} {o : Obj} (o' : Obj) (h : W.heap[b]? = some o) (ho : o.isCells = false) : KeepsTy ts W (W.putObj b o') := fun k c t fr _ hk => by
  by_cases e : k = b
  · subst e
    rw [h] at hk
    cases hk
    cases ho
  · exact (World.putObj_heap_other e).trans hk
theorem KeepsTy.below {ts : List Nat} (h : Below W.heap.size W W') : KeepsTy ts W W' := fun k _ _ _ _ hk => (h.block k (lt_of hk)).trans hk

/-- A row's own block, by its type. -/
theorem own_block {base e size n : Nat} {v : Value} {xs : List Value} (h : W.ownsRow base e size v n xs) : ∀ j, v.ownBlock = some j → ∃ c, W.heap[j]? = some (.cells c e (0, 0)) := by
  intro j hj
  rcases h.2 with ⟨rfl, _⟩ | ⟨g, cap, cur, rfl, hg, hh, r⟩
  · simp [Value.ownBlock] at hj
  · have : g = j := by simpa [Value.ownBlock] using hj
    subst this
    exact ⟨cur, hh⟩
theorem own_ne {base e size n : Nat} {v : Value} {xs : List Value} {c : Array Value} {fr : Nat × Nat} (h : W.ownsRow base e size v n xs) (hb : W.heap[b]? = some (.cells c t fr)) (ht : e ≠ t) : v.ownBlock ≠ some b := by
  intro hj
  obtain ⟨c', hc⟩ := own_block h b hj
  rw [hb] at hc
  injection hc with hc
  injection hc with _ hc _
  exact ht hc.symm
theorem others_set (W : World) (a : Addr) (u : Value) : KeepsOthers W (W.setCell a u) := KeepsOthers.setCell W a u
theorem others_drew (W : World) : KeepsOthers W W.drew := ⟨Nat.le_refl _, fun _ _ h _ => h⟩
theorem others_grown {row : Option Nat} (hg : W.grownBy W' row) (hrow : ∀ j, row = some j → ∃ c t fr, W.heap[j]? = some (.cells c t fr)) : KeepsOthers W W' :=
  KeepsOthers.of_grownBy hg fun j o e hj => by
    obtain ⟨c, t, fr, h⟩ := hrow j e
    rw [h] at hj
    cases hj
    rfl
end Go.Proofs.Ytecfoepcgammcaa.Blocks
