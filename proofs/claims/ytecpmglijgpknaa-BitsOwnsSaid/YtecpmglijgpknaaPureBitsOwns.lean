/- The plain law of BitsOwns. -/
import Derived.Test.YtecpmglijgpknaaX5
import Derived.Test.YtecpmglijgpknaaSpecP
namespace Go.Proofs.Ytecpmglijgpknaa.Pure
open Go.RowKit Go.Proofs.Ytecpmglijgpknaa.X Go.Proofs.YtecpmglijgpknaaW.PrintWords Go.Proofs.YtecpmglijgpknaaW.PrintLast Go.Proofs.Ytecpmglijgpknaa.Math

theorem BitsOwns : pannierlaw01_BitsOwns.Pure := by
  intro l n v hl hl2 hx hn hv
  have hb := bytes_of_wf hx
  obtain ⟨n0, n1⟩ := i64_of_wf hn
  obtain ⟨v0, v1⟩ := u64_of_wf hv
  obtain ⟨k1, h1⟩ := refputown_res hb (by omega) n0 n1 v0 v1
  dsimp only at h1
  refine ⟨k1, ?_⟩
  unfold pannierlaw01_BitsOwns.f
  rw [shown_some, putown_res hb (by omega) n0 n1 v0, h1 _ (Nat.le_refl _)]
  simp

end Go.Proofs.Ytecpmglijgpknaa.Pure
