/- The plain law of BitsPuts. -/
import Derived.Test.YtecpmglijgpknaaX3
import Derived.Test.YtecpmglijgpknaaSpecP
namespace Go.Proofs.Ytecpmglijgpknaa.Pure
open Go.RowKit Go.Proofs.Ytecpmglijgpknaa.X Go.Proofs.YtecpmglijgpknaaW.PrintWords Go.Proofs.YtecpmglijgpknaaW.PrintLast Go.Proofs.Ytecpmglijgpknaa.Math

theorem BitsPuts : pannierlaw01_BitsPuts.Pure := by
  intro l n v w hl hl2 hx hn hv hw
  have hb := bytes_of_wf hx
  obtain ⟨n0, n1⟩ := i64_of_wf hn
  obtain ⟨v0, v1⟩ := u64_of_wf hv
  obtain ⟨k1, h1⟩ := refput_res (w := w) hb (by omega) n0 n1 v0 v1
  obtain ⟨k2, h2⟩ := refright_res (n := n) hb (by omega) n0 n1
  dsimp only at h1 h2
  refine ⟨max k1 k2, ?_⟩
  unfold pannierlaw01_BitsPuts.f
  rw [shown_some, put_res hb (by omega) n0 n1 v0 v1, h1 _ (Nat.le_max_left _ _), h2 _ (Nat.le_max_right _ _), right_some hb (by omega) n0 n1]
  simp

end Go.Proofs.Ytecpmglijgpknaa.Pure
