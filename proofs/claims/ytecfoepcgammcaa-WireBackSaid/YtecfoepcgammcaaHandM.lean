/- A constant text's bytes are a marked block: it is read as any row. -/
import Derived.Test.YtecfoepcgammcaaHandS
import Derived.Lib.SlBytesConst
namespace Go.Proofs.Ytecfoepcgammcaa.HandF
set_option linter.unusedVariables false
set_option linter.unusedSimpArgs false
open Go.RowKit Go.Proofs.Ytecfoepcgammcaa.X Go.Proofs.Ytecfoepcgammcaa.Blocks
open Go.Proofs.YtecfoepcgammcaaW.PrintWords Go.Proofs.YtecfoepcgammcaaW.PrintLast Go.Proofs.YtecfoepcgammcaaW.PrintMore

theorem C_marked (w : World) (l : List Int) (hl : l.length ≤ 9223372036854775807) (fr : Nat × Nat) (C : Array Value) (hC : C = (l.map (Value.int .u8)).toArray) :
    (Kd.int .u8).C (w.alloc (.cells C 5 fr)) (some ⟨w.heap.size, 0, none⟩) l.length l := by
  subst hC
  refine ⟨rfl, hl, fun _ => ⟨_, rfl, fun j p hj => ⟨[.int .u8 p], rfl, rfl, fun i u hi => ?_⟩⟩⟩
  cases i with
  | succ i => simp at hi
  | zero =>
    obtain rfl : Value.int .u8 p = u := by simpa using hi
    have h := alloc_new w (.cells (l.map (Value.int .u8)).toArray 5 fr)
    have e : (⟨w.heap.size, 0, none⟩ : Addr).add (j * 1 + 0) = ⟨w.heap.size, j, none⟩ := by
      rw [Nat.mul_one, Nat.add_zero]; exact YtecfoepcgammcaaW.PrintWords.add_plain _ _
    show (w.alloc _).cell? ((⟨w.heap.size, 0, none⟩ : Addr).add (j * 1 + 0)) = _
    rw [e]
    simp only [World.cell?, h]
    simp [hj]

theorem sum_lit (t : Int) (l : List Int) (n c : Nat) (hn : n = l.length) (hc : l.length ≤ c) (hl : l.length ≤ 9223372036854775807) (fr : Nat × Nat) (C : Array Value) (hC : C = (l.map (Value.int .u8)).toArray) (w : World) (h : wire_Sum.f l = some t) :
    Calls Try.prog 12 #[.slice (some ⟨w.heap.size, 0, none⟩) n c] (w.alloc (.cells C 5 fr)) fun e w' => e = .returned (.int .u32 t) ∧ Below w.heap.size w w' := by
  subst hn
  refine (wire_Sum.calls _ c l t _ (C_marked w l hl fr C hC) hc h).mono ?_
  rintro e w' ⟨rfl, hb⟩
  exact ⟨rfl, below_step ((Below.refl _ _).alloc (Nat.le_refl _) _) hb⟩
end Go.Proofs.Ytecfoepcgammcaa.HandF
