/- Trees in memory with what they lead to: kids, new rows of two kids, and the printed forms. -/
import Derived.Test.YtlhaofbncoijfaaTree
import Derived.Test.YtlhaofbncoijfaaX55
import Derived.Test.YtlhaofbncoijfaaX44
import Derived.Test.YtlhaofbncoijfaaX66
namespace Go.Proofs.Ytlhaofbncoijfaa.HandF
set_option linter.unusedVariables false
set_option linter.unusedSimpArgs false
open Go.RowKit Go.Proofs.Ytlhaofbncoijfaa.X Go.Proofs.Ytlhaofbncoijfaa.Tree
open Go.Proofs.YtlhaofbncoijfaaW.PrintWords Go.Proofs.YtlhaofbncoijfaaW.PrintLast Go.Proofs.YtlhaofbncoijfaaW.PrintMore

/-- A tree with its row's address and room. -/
abbrev Kd2 := S24 × Option Addr × Nat
abbrev kv (k : Kd2) : Value := .agg #[.bool k.1.f0, .slice k.2.1 k.1.f1.length k.2.2]
/-- It lies in W, and what it leads to is in ok. -/
def Ft (W : World) (ok : Nat → Prop) (k : Kd2) : Prop := k.1.f1.length ≤ k.2.2 ∧ Kd.F k24 W ok k.2.1 k.1.f1.length k.1.f1
theorem Ft.now {W : World} {ok : Nat → Prop} {k : Kd2} (h : Ft W ok k) : Kd.C k24 W k.2.1 k.1.f1.length k.1.f1 := Kd.F_now h.2
theorem Ft.mono {W : World} {ok ok' : Nat → Prop} {k : Kd2} (h : Ft W ok k) (hok : ∀ j, ok j → ok' j) : Ft W ok' k := ⟨h.1, Kd.F_mono h.2 hok⟩
theorem Ft.below {W W' : World} {ok : Nat → Prop} {k : Kd2} (h : Ft W ok k) (hb : Below W.heap.size W W') : Ft W' ok k := ⟨h.1, Kd.F_below h.2 hb⟩
theorem Ft.leaf (W : World) (ok : Nat → Prop) (b : Bool) : Ft W ok (⟨b, []⟩, none, 0) := ⟨Nat.le_refl _, Kd.F_nil _ _ _⟩
theorem heap24 : Kd.Heap k24 := Kd.heap_fix (fun _ h_ => Kd.heap_iso _ (Kd.heap_pair Kd.heap_bool (Kd.heap_slice 24 h_)))
theorem Ft.all {W : World} {k : Kd2} (hl : k.1.f1.length ≤ k.2.2) (hC : Kd.C k24 W k.2.1 k.1.f1.length k.1.f1) : Ft W (fun j => j < W.heap.size) k := ⟨hl, Kd.C_F heap24 hC⟩
theorem Ft.ofV {W : World} {base : Nat} {ok : Nat → Prop} {b : Bool} {A : Option Addr} {c : Nat} {l : List S24} (h : Kd.V k24 24 W base ok (.slice A l.length c) l) : Ft W ok (⟨b, l⟩, A, c) := ⟨(Kd.V_at h).2.1, (Kd.V_at h).2.2⟩
theorem Ft.toV {W : World} {base : Nat} {ok : Nat → Prop} {k : Kd2} (h : Ft W ok k) : Kd.V k24 24 W base ok (.slice k.2.1 k.1.f1.length k.2.2) k.1.f1 := Kd.V_mk h.1 h.2

/-- The two kids of a node, where they lie. -/
theorem Ft.kids {W : World} {ok : Nat → Prop} {k : Kd2} {a b : T} (h : Ft W ok k) (hk : k.1 = (T.node a b).toS) :
    ∃ (ad : Addr) (ka kb : Kd2), k.2.1 = some ad ∧ ka.1 = a.toS ∧ kb.1 = b.toS ∧ Ft W ok ka ∧ Ft W ok kb ∧
      W.cell? ad = some (.bool ka.1.f0) ∧ W.cell? ⟨ad.block, ad.off + 1, none⟩ = some (.slice ka.2.1 ka.1.f1.length ka.2.2) ∧
      W.cell? ⟨ad.block, ad.off + 2, none⟩ = some (.bool kb.1.f0) ∧ W.cell? ⟨ad.block, ad.off + 2 + 1, none⟩ = some (.slice kb.2.1 kb.1.f1.length kb.2.2) := by
  obtain ⟨s, A, c⟩ := k
  dsimp only at hk
  subst hk
  have h2 := h.2
  dsimp only [T.toS] at h2
  obtain ⟨ad, c0, rfl, hl0, hK0, hc0, _⟩ := Kd.F_get h2 z24 0 (by omega) (by simp)
  obtain ⟨ad', c1, e, hl1, hK1, hc1, _⟩ := Kd.F_get h2 z24 1 (by omega) (by simp)
  obtain rfl : ad = ad' := by injection e
  obtain ⟨A0, k0, rfl, m0, F0⟩ := k24_openF hK0
  obtain ⟨A1, k1, rfl, m1, F1⟩ := k24_openF hK1
  have z0 : ([a.toS, b.toS] : List S24).getD (0 : Int).toNat z24 = a.toS := rfl
  have z1 : ([a.toS, b.toS] : List S24).getD (1 : Int).toNat z24 = b.toS := rfl
  rw [z0] at m0 F0 hc0
  rw [z1] at m1 F1 hc1
  refine ⟨ad, (a.toS, A0, k0), (b.toS, A1, k1), rfl, rfl, rfl, ⟨m0, F0⟩, ⟨m1, F1⟩, ?_, ?_, ?_, ?_⟩
  · have := hc0 0 _ rfl; rwa [show (0 : Int).toNat * k24.sz + 0 = 0 from rfl, Addr.add_zero'] at this
  · have := hc0 1 _ rfl; rw [add_field _ _ 1 (by omega), show (0 : Int).toNat * k24.sz = 0 from rfl, Addr.add_zero'] at this; exact this
  · have := hc1 0 _ rfl; rw [show (1 : Int).toNat * k24.sz + 0 = 2 from rfl] at this; simpa [Addr.add] using this
  · have := hc1 1 _ rfl; rw [add_field _ _ 1 (by omega), show (1 : Int).toNat * k24.sz = 2 from rfl] at this; simpa [Addr.add] using this

theorem kcell {w W : World} (hb : Below w.heap.size w W) {p : Addr} {v : Value} (hx : w.cell? p = some v) : W.cell? p = some v := (hb.cell (World.block_lt_of_cell? w _ hx)).trans hx
theorem Ft.move {W W' : World} {ok : Nat → Prop} {k : Kd2} (h : Ft W ok k) (hm : ∀ j, ok j → W'.heap[j]? = W.heap[j]?) : Ft W' ok k := ⟨h.1, Kd.F_step h.2 (fun j hj _ => hm j hj)⟩
theorem Ft.bound {W : World} {ok : Nat → Prop} {k : Kd2} (h : Ft W ok k) : Ft W (fun j => ok j ∧ j < W.heap.size) k := ⟨h.1, Kd.F_bound h.2⟩
/-- A row of two kids. -/
theorem two_C {W : World} {g : Nat} {ka kb : Kd2} (la : ka.1.f1.length ≤ ka.2.2) (ga : Kd.C k24 W ka.2.1 ka.1.f1.length ka.1.f1) (lb : kb.1.f1.length ≤ kb.2.2) (gb : Kd.C k24 W kb.2.1 kb.1.f1.length kb.1.f1)
    (hb : W.heap[g]? = some (.cells #[.bool ka.1.f0, .slice ka.2.1 ka.1.f1.length ka.2.2, .bool kb.1.f0, .slice kb.2.1 kb.1.f1.length kb.2.2] 24 (0, 0))) :
    Kd.C k24 W (some ⟨g, 0, none⟩) 2 [ka.1, kb.1] := by
  have ka' := k24_mk W ka.1 la ga
  have kb' := k24_mk W kb.1 lb gb
  refine ⟨rfl, by decide, fun _ => ⟨_, rfl, fun j p hj => ?_⟩⟩
  have hcell : ∀ i u, (#[Value.bool ka.1.f0, .slice ka.2.1 ka.1.f1.length ka.2.2, .bool kb.1.f0, .slice kb.2.1 kb.1.f1.length kb.2.2] : Array Value)[i]? = some u → W.cell? ((⟨g, 0, none⟩ : Addr).add i) = some u := fun i u hu => by
    rw [add_plain]
    simp only [World.cell?, hb]
    simpa using hu
  match j, hj with
  | 0, hj =>
    obtain rfl : ka.1 = p := by simpa using hj
    refine ⟨_, rfl, ka', fun i u hi => hcell _ u ?_⟩
    match i, hi with
    | 0, hi => simpa using hi
    | 1, hi => simpa using hi
  | 1, hj =>
    obtain rfl : kb.1 = p := by simpa using hj
    refine ⟨_, rfl, kb', fun i u hi => hcell _ u ?_⟩
    match i, hi with
    | 0, hi => exact (show (#[Value.bool ka.1.f0, .slice ka.2.1 ka.1.f1.length ka.2.2, .bool kb.1.f0, .slice kb.2.1 kb.1.f1.length kb.2.2] : Array Value)[2]? = some u by simpa using hi)
    | 1, hi => exact (show (#[Value.bool ka.1.f0, .slice ka.2.1 ka.1.f1.length ka.2.2, .bool kb.1.f0, .slice kb.2.1 kb.1.f1.length kb.2.2] : Array Value)[3]? = some u by simpa using hi)
theorem Ft.two {W : World} {ok : Nat → Prop} {g : Nat} {ka kb : Kd2} (ha : Ft W ok ka) (hb : Ft W ok kb) (hg : ok g) (b : Bool)
    (hc : W.heap[g]? = some (.cells #[.bool ka.1.f0, .slice ka.2.1 ka.1.f1.length ka.2.2, .bool kb.1.f0, .slice kb.2.1 kb.1.f1.length kb.2.2] 24 (0, 0))) :
    Ft W ok (⟨b, [ka.1, kb.1]⟩, some ⟨g, 0, none⟩, 2) :=
  ⟨Nat.le_refl _, fun W' hW => two_C ha.1 (ha.2 W' hW) hb.1 (hb.2 W' hW) ((hW g hg (Array.getElem?_eq_some_iff.1 hc).1).trans hc)⟩

/-- The small tests. -/
theorem none_calls (k : Kd2) (t : T) (w : World) (ok : Nat → Prop) (hk : k.1 = t.toS) (h : Ft w ok k) :
    Calls Try.prog 66 #[kv k] w fun e w' => e = .returned (.bool t.isNone) ∧ Below w.heap.size w w' := by
  obtain ⟨s, A, c⟩ := k
  dsimp only at hk
  subst hk
  refine id_isNone.calls t.toS.f0 A c t.toS.f1 t.isNone w h.now h.1 ?_
  cases t with
  | leaf b => cases b <;> rfl
  | node a b => rfl
theorem one_calls (k : Kd2) (t : T) (w : World) (ok : Nat → Prop) (hk : k.1 = t.toS) (h : Ft w ok k) :
    Calls Try.prog 44 #[kv k] w fun e w' => e = .returned (.bool t.isOne) ∧ Below w.heap.size w w' := by
  obtain ⟨s, A, c⟩ := k
  dsimp only at hk
  subst hk
  refine id_isOne.calls t.toS.f0 A c t.toS.f1 t.isOne w h.now h.1 ?_
  cases t with
  | leaf b => cases b <;> rfl
  | node a b => rfl
theorem leaf_calls (k : Kd2) (t : T) (w : World) (ok : Nat → Prop) (hk : k.1 = t.toS) (h : Ft w ok k) :
    Calls Try.prog 55 #[kv k] w fun e w' => e = .returned (.bool t.isLeaf) ∧ Below w.heap.size w w' := by
  obtain ⟨s, A, c⟩ := k
  dsimp only at hk
  subst hk
  refine id_isLeaf.calls t.toS.f0 A c t.toS.f1 t.isLeaf w h.now h.1 ?_
  cases t with
  | leaf b => rfl
  | node a b => rfl
end Go.Proofs.Ytlhaofbncoijfaa.HandF
