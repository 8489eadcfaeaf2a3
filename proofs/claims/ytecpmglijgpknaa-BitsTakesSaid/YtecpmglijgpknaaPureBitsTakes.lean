/- The plain law of BitsTakes. -/
import Derived.Test.YtecpmglijgpknaaX6
import Derived.Test.YtecpmglijgpknaaSpecT
namespace Go.Proofs.Ytecpmglijgpknaa.Pure
open Go.RowKit Go.Proofs.Ytecpmglijgpknaa.X Go.Proofs.YtecpmglijgpknaaW.PrintWords Go.Proofs.YtecpmglijgpknaaW.PrintLast Go.Proofs.Ytecpmglijgpknaa.Math

theorem BitsTakes : pannierlaw01_BitsTakes.Pure := by
  intro l n p w hl hl2 hx hn hp hw
  have hb := bytes_of_wf hx
  obtain ⟨n0, n1⟩ := i64_of_wf hn
  obtain ⟨k1, h1⟩ := take_res (p := p) (w := w) hb (by omega) n0 n1
  obtain ⟨k2, h2⟩ := reftake_res (p := p) (w := w) hb (by omega) n0 n1
  dsimp only at h1 h2
  refine ⟨max k1 k2, ?_⟩
  unfold pannierlaw01_BitsTakes.f
  rw [shown_some, h1 _ (Nat.le_max_left _ _), h2 _ (Nat.le_max_right _ _)]
  simp

end Go.Proofs.Ytecpmglijgpknaa.Pure
