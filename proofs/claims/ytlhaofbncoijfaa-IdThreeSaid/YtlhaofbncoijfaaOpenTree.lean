/- An argument that is a tree, opened to what the walks read. -/
import Derived.Test.YtlhaofbncoijfaaKids
import Derived.Deep.Slices
import Derived.Deep.Fields
import Derived.ChangeSame
import Derived.SizedLaws
namespace Go.Proofs.Ytlhaofbncoijfaa.HandF
set_option linter.unusedVariables false
set_option linter.unusedSimpArgs false
set_option maxRecDepth 100000
open Go.RowKit Go.ChangeShapes Go.WideShapes Go.Deep Go.Proofs.Ytlhaofbncoijfaa.X
open Go.Proofs.YtlhaofbncoijfaaW.PrintWords Go.Proofs.YtlhaofbncoijfaaW.PrintLast Go.Proofs.YtlhaofbncoijfaaW.PrintMore

theorem cells24 : Try.prog.cellsOf 24 = 2 := by kernel_rfl
theorem cells4 : Try.prog.cellsOf 4 = 1 := by kernel_rfl
theorem cells22 : Try.prog.cellsOf 22 = 1 := by kernel_rfl


theorem open_cells {H : Type} {enc : TypeId × Value → H} {W : World} {base : Nat} {spare : Nat → Bool} {held : Bool} : ∀ (n : Nat) {cs : List Value} {y : DataW H × List MemPlace},
    DataW.trod enc Try.prog W base spare held n 24 cs = some y → ∃ k : Kd2, cs = [.bool k.1.f0, .slice k.2.1 k.1.f1.length k.2.2] ∧ k.1.f1.length ≤ k.2.2 ∧ Kd.C k24 W k.2.1 k.1.f1.length k.1.f1 := by
  intro n
  induction n using Nat.strongRecOn with
  | _ n ih =>
  intro cs y h
  obtain ⟨ys, m, hm, hy, hcl, hyl, hf⟩ := DataW.trod_struct Try.underlying24 h
  have f0 : DataW.trod enc Try.prog W base spare held m 4 ((cs.drop 0).take (Try.prog.cellsOf 4)) = ys[0]? := hf 0 _ rfl
  have f1 : DataW.trod enc Try.prog W base spare held m 22 ((cs.drop 1).take (Try.prog.cellsOf 22)) = ys[1]? := hf 1 _ rfl
  rw [cells4] at f0
  rw [cells22] at f1
  rw [cells24] at hcl
  match cs, hcl with
  | [c0, c1], _ =>
    match ys, hyl with
    | [y0, y1], _ =>
      obtain ⟨b, e0, _⟩ := DataW.trod_bool Try.underlying4 (show DataW.trod enc Try.prog W base spare held m 4 [c0] = some y0 from f0)
      cases e0
      have g1 : DataW.trod enc Try.prog W base spare held m 22 [c1] = some y1 := f1
      rcases DataW.trod_slice Try.underlying22 g1 with ⟨hc, _⟩ | ⟨a, len, cap, elems, rest, n', hn', hc, _, hb, hl, hmx, hlen, hel, _, _⟩
      · cases hc
        exact ⟨(⟨b, []⟩, none, 0), rfl, Nat.le_refl _, Kd.C_nil _ _⟩
      · cases hc
        rw [cells24] at hel
        obtain ⟨V, hV⟩ := (haveI : Inhabited S24 := ⟨z24⟩; choose_lt (n := len) (α := S24) (p := fun i p => ∃ cs', W.cells? base (a.add (i * 2)) 2 = some cs' ∧ k24.K W p cs') (fun i hil => by
          have h1 := hel i hil
          rw [List.getElem?_eq_getElem (by omega)] at h1
          obtain ⟨cs', h2, h3⟩ := Option.bind_eq_some_iff.1 h1
          obtain ⟨k, rfl, kl, kC⟩ := ih n' (by omega) h3
          exact ⟨k.1, _, h2, k24_mk W k.1 kl kC⟩))
        have hget : ∀ i (p : S24), ((List.range len).map V)[i]? = some p → i < len ∧ V i = p := fun i p hp => by
          rw [List.getElem?_map] at hp
          obtain ⟨j, hj, rfl⟩ := Option.map_eq_some_iff.1 hp
          obtain ⟨hjl, hje⟩ := List.getElem?_eq_some_iff.1 hj
          rw [List.getElem_range] at hje
          rw [List.length_range] at hjl
          subst hje
          exact ⟨hjl, rfl⟩
        refine ⟨(⟨b, (List.range len).map V⟩, some a, cap), by simp, by simpa using hl, rfl, ?_, fun _ => ⟨a, rfl, fun j p hj => ?_⟩⟩
        · have : cap ≤ maxLen := hmx
          unfold maxLen at this
          simp only [List.length_map, List.length_range]
          omega
        · obtain ⟨hjl, rfl⟩ := hget j p hj
          obtain ⟨cs', h1, h2⟩ := hV j hjl
          obtain ⟨_, hcl', hat⟩ := World.cells?_some h1
          refine ⟨cs', hcl', h2, fun i u hu => ?_⟩
          have hi2 : i < 2 := by have := (List.getElem?_eq_some_iff.1 hu).1; omega
          have := hat i hi2
          rw [Go.Deep.add_add] at this
          exact this.trans hu
/-- A tree that is an argument. -/
theorem open_tree {H : Type} {enc : TypeId × Value → H} {W : World} {base : Nat} {spare : Nat → Bool} {held : Bool} {r : Reach} {b0 : Nat} {v : Value} {d : DataW H} {ps : List MemPlace} (hval : Value.okWide Try.prog W r b0 24 v)
    (h : DataW.Trod enc Try.prog W base spare held 24 v d ps) : ∃ k : Kd2, v = kv k ∧ k.1.f1.length ≤ k.2.2 ∧ Kd.C k24 W k.2.1 k.1.f1.length k.1.f1 := by
  simp only [Value.okWide, Try.underlying24] at hval
  obtain ⟨cs, rfl, _, _⟩ := hval
  obtain ⟨fuel, hf⟩ := h
  obtain ⟨k, e, h1, h2⟩ := open_cells fuel hf
  refine ⟨k, ?_, h1, h2⟩
  have e' : cs.toList = [.bool k.1.f0, .slice k.2.1 k.1.f1.length k.2.2] := e
  show Value.agg cs = .agg #[.bool k.1.f0, .slice k.2.1 k.1.f1.length k.2.2]
  rw [show cs = cs.toList.toArray by simp, e']
end Go.Proofs.Ytlhaofbncoijfaa.HandF
