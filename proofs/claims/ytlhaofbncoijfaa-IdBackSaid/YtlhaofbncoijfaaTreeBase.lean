/- Trees in memory: what a tree's value is, and a row of two kids newly made. -/
import Derived.Test.YtlhaofbncoijfaaX0
import Derived.Test.YtlhaofbncoijfaaBlocks
namespace Go.Proofs.Ytlhaofbncoijfaa.HandF
set_option linter.unusedVariables false
set_option linter.unusedSimpArgs false
open Go.RowKit Go.Proofs.Ytlhaofbncoijfaa.X Go.Proofs.Ytlhaofbncoijfaa.Blocks
open Go.Proofs.YtlhaofbncoijfaaW.PrintWords Go.Proofs.YtlhaofbncoijfaaW.PrintLast Go.Proofs.YtlhaofbncoijfaaW.PrintMore

/-- A tree that lies in memory. -/
def TreeV (w : World) (t : S24) (v : Value) : Prop := ∃ A c, v = .agg #[.bool t.f0, .slice A t.f1.length c] ∧ t.f1.length ≤ c ∧ Kd.C k24 w A t.f1.length t.f1
theorem TreeV.below {w w' : World} {t : S24} {v : Value} (h : TreeV w t v) (hb : Below w.heap.size w w') : TreeV w' t v := by
  obtain ⟨A, c, e, hc, hC⟩ := h
  exact ⟨A, c, e, hc, Kd.C_below hC hb⟩
/-- A leaf. -/
theorem TreeV.leaf (w : World) (b : Bool) : TreeV w ⟨b, []⟩ (.agg #[.bool b, .slice none 0 0]) := ⟨none, 0, rfl, Nat.le_refl _, Kd.C_nil _ _⟩

/-- A row of two kids, newly made. -/
theorem two_kids (w : World) (a b : S24) {Aa Ab : Option Addr} {ca cb : Nat} (la : a.f1.length ≤ ca) (ga : Kd.C k24 w Aa a.f1.length a.f1) (lb : b.f1.length ≤ cb) (gb : Kd.C k24 w Ab b.f1.length b.f1) (W : World)
    (hW : Below w.heap.size w W) (hb : W.heap[w.heap.size]? = some (.cells #[.bool a.f0, .slice Aa a.f1.length ca, .bool b.f0, .slice Ab b.f1.length cb] 24 (0, 0))) :
    Kd.C k24 W (some ⟨w.heap.size, 0, none⟩) 2 [a, b] := by
  have ka := k24_mk W a la (Kd.C_below ga hW)
  have kb := k24_mk W b lb (Kd.C_below gb hW)
  refine ⟨rfl, by decide, fun _ => ⟨_, rfl, fun j p hj => ?_⟩⟩
  have hcell : ∀ i u, (#[Value.bool a.f0, .slice Aa a.f1.length ca, .bool b.f0, .slice Ab b.f1.length cb] : Array Value)[i]? = some u → W.cell? ((⟨w.heap.size, 0, none⟩ : Addr).add i) = some u := fun i u hu => by
    rw [add_plain]
    simp only [World.cell?, hb]
    simpa using hu
  match j, hj with
  | 0, hj =>
    obtain rfl : a = p := by simpa using hj
    refine ⟨_, rfl, ka, fun i u hi => hcell _ u ?_⟩
    match i, hi with
    | 0, hi => simpa using hi
    | 1, hi => simpa using hi
  | 1, hj =>
    obtain rfl : b = p := by simpa using hj
    refine ⟨_, rfl, kb, fun i u hi => hcell _ u ?_⟩
    match i, hi with
    | 0, hi => exact (show (#[Value.bool a.f0, .slice Aa a.f1.length ca, .bool b.f0, .slice Ab b.f1.length cb] : Array Value)[2]? = some u by simpa using hi)
    | 1, hi => exact (show (#[Value.bool a.f0, .slice Aa a.f1.length ca, .bool b.f0, .slice Ab b.f1.length cb] : Array Value)[3]? = some u by simpa using hi)
end Go.Proofs.Ytlhaofbncoijfaa.HandF
