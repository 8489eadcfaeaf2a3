/- The plain law of KeysStand. -/
import Derived.Test.YtdofoopnjmbmcaaDoorX3
import Derived.Test.YtdofoopnjmbmcaaDoorStandMath
namespace Go.Proofs.YtdofoopnjmbmcaaDoor.Math
set_option linter.unusedVariables false
set_option linter.unusedSimpArgs false
open Go.RowKit Go.Proofs.YtdofoopnjmbmcaaDoor.X Go.Proofs.YtdofoopnjmbmcaaDoor.HandF
open Go.Proofs.YtdofoopnjmbmcaaDoorW.PrintWords Go.Proofs.YtdofoopnjmbmcaaDoorW.PrintLast Go.Proofs.YtdofoopnjmbmcaaDoorW.PrintMore

theorem KeysStand (l m : List S41) (hl : l.length ≤ 140737488355328) (hm : m.length ≤ 140737488355328) : ∃ k, pannierlaw03_KeysStand.f k l m = some true := by
  obtain ⟨k1, h1⟩ := refRight_ev l hl
  obtain ⟨k2, h2⟩ := refRight_ev m hm
  dsimp only at h1 h2
  by_cases c : rightL l = true ∧ rightL m = true
  · have ha : l.all rightP = true := by have := c.1; unfold rightL at this; rw [Bool.and_eq_true, Bool.and_eq_true] at this; exact this.1.1
    have hb : m.all rightP = true := by have := c.2; unfold rightL at this; rw [Bool.and_eq_true, Bool.and_eq_true] at this; exact this.1.1
    obtain ⟨k3, h3⟩ := refCompare_ev l m hl hm ha hb
    dsimp only at h3
    refine ⟨max (max k1 k2) k3 + 1, ?_⟩
    unfold pannierlaw03_KeysStand.f
    rw [shown_some, Option.bind_some, h1 _ (by omega), Option.bind_some, h2 _ (by omega), Option.bind_some, if_pos c.1, c.2, pannierlaw03_KeysStand.j0, if_neg (by decide), if_pos rfl]
    unfold keys_Compare.f
    rw [if_pos ⟨hl, hm⟩, Option.bind_some, h3 _ (by omega), Option.bind_some, beq_self_eq_true]
  · refine ⟨max k1 k2 + 1, ?_⟩
    unfold pannierlaw03_KeysStand.f
    rw [shown_some, Option.bind_some, h1 _ (by omega), Option.bind_some, h2 _ (by omega), Option.bind_some]
    by_cases d : rightL l = true
    · have hmf : rightL m = false := by
        cases h : rightL m
        · rfl
        · exact absurd ⟨d, h⟩ c
      rw [if_pos d, hmf, pannierlaw03_KeysStand.j0]
      rfl
    · rw [if_neg d, pannierlaw03_KeysStand.j0, if_pos rfl]

theorem stand_walk (A0 : Option Addr) (c0 : Nat) (l : List S41) (A1 : Option Addr) (c1 : Nat) (m : List S41) (w : World) (h0 : Kd.C k41 w A0 l.length l) (g0 : l.length ≤ c0) (h1 : Kd.C k41 w A1 m.length m) (g1 : m.length ≤ c1) (hl : l.length ≤ 140737488351232) (hm : m.length ≤ 140737488351232) :
    Calls Tryd.prog 3 #[.slice A0 l.length c0, .slice A1 m.length c1] w fun e w' => e = .returned (.bool true) ∧ Below w.heap.size w w' := by
  obtain ⟨k, h⟩ := KeysStand l m (by omega) (by omega)
  exact pannierlaw03_KeysStand.calls k A0 c0 l A1 c1 m true w h0 g0 h1 g1 h
end Go.Proofs.YtdofoopnjmbmcaaDoor.Math
