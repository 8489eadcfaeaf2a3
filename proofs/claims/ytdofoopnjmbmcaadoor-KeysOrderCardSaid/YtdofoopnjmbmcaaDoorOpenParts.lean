/- An argument that is a slice of parts, opened to the list that the walks read. -/
import Derived.Test.YtdofoopnjmbmcaaDoorX0
import Derived.Deep.Slices
import Derived.Deep.Fields
import Derived.ChangeSame
import Derived.SizedLaws
namespace Go.Proofs.YtdofoopnjmbmcaaDoor.HandF
set_option linter.unusedVariables false
set_option linter.unusedSimpArgs false
open Go.RowKit Go.ChangeShapes Go.WideShapes Go.Deep Go.Proofs.YtdofoopnjmbmcaaDoor.X
open Go.Proofs.YtdofoopnjmbmcaaDoorW.PrintWords Go.Proofs.YtdofoopnjmbmcaaDoorW.PrintLast Go.Proofs.YtdofoopnjmbmcaaDoorW.PrintMore

theorem cells41 : Tryd.prog.cellsOf 41 = 3 := by kernel_rfl
theorem cells4 : Tryd.prog.cellsOf 4 = 1 := by kernel_rfl
theorem cells39 : Tryd.prog.cellsOf 39 = 1 := by kernel_rfl
theorem cells9 : Tryd.prog.cellsOf 9 = 1 := by kernel_rfl

/-- One part's cells. -/
def PartAt (W : World) (a : Addr) (p : S41) : Prop :=
  (Lit.int .u64 p.f1).wf = true ∧ p.f2.size ≤ maxLen ∧ ∀ i u, ([.bool p.f0, .int .u64 p.f1, .string p.f2] : List Value)[i]? = some u → W.cell? (a.add i) = some u

theorem open_part {H : Type} {enc : TypeId × Value → H} {W : World} {base n : Nat} {spare : Nat → Bool} {held : Bool} {a : Addr} {cs : List Value} {y : DataW H × List MemPlace}
    (hc : W.cells? base a 3 = some cs) (h : DataW.trod enc Tryd.prog W base spare held n 41 cs = some y) : ∃ p, PartAt W a p := by
  obtain ⟨_, hcl, hat⟩ := World.cells?_some hc
  obtain ⟨ys, m, hm, hy, hlen, hyl, hf⟩ := DataW.trod_struct Tryd.underlying41 h
  have f0 : DataW.trod enc Tryd.prog W base spare held m 4 ((cs.drop 0).take (Tryd.prog.cellsOf 4)) = ys[0]? := hf 0 _ rfl
  have f1 : DataW.trod enc Tryd.prog W base spare held m 39 ((cs.drop 1).take (Tryd.prog.cellsOf 39)) = ys[1]? := hf 1 _ rfl
  have f2 : DataW.trod enc Tryd.prog W base spare held m 9 ((cs.drop 2).take (Tryd.prog.cellsOf 9)) = ys[2]? := hf 2 _ rfl
  rw [cells4] at f0
  rw [cells39] at f1
  rw [cells9] at f2
  match cs, hcl with
  | [c0, c1, c2], _ =>
    match ys, hyl with
    | [y0, y1, y2], _ =>
      obtain ⟨b, e0, _⟩ := DataW.trod_bool Tryd.underlying4 (show DataW.trod enc Tryd.prog W base spare held m 4 [c0] = some y0 from f0)
      obtain ⟨k, e1, _, w1⟩ := DataW.trod_int Tryd.underlying39 (show DataW.trod enc Tryd.prog W base spare held m 39 [c1] = some y1 from f1)
      obtain ⟨s, e2, _, w2⟩ := DataW.trod_string Tryd.underlying9 (show DataW.trod enc Tryd.prog W base spare held m 9 [c2] = some y2 from f2)
      cases e0
      cases e1
      cases e2
      refine ⟨⟨b, k, s⟩, w1, w2, fun i u hi => ?_⟩
      have hi3 : i < 3 := (List.getElem?_eq_some_iff.1 hi).1
      rw [hat i hi3]
      exact hi

theorem open_parts {H : Type} {enc : TypeId × Value → H} {W : World} {base : Nat} {spare : Nat → Bool} {held : Bool} {A : Option Addr} {len cap : Nat} {d : DataW H} {ps : List MemPlace}
    (h : DataW.Trod enc Tryd.prog W base spare held 22 (.slice A len cap) d ps) :
    ∃ l : List S41, l.length = len ∧ len ≤ cap ∧ len ≤ maxLen ∧ Kd.C k41 W A l.length l ∧ (∀ p ∈ l, (Lit.int .u64 p.f1).wf = true ∧ p.f2.size ≤ maxLen) ∧
      ((d = .nil ∧ len = 0) ∨ ∃ es sp, d = .slice es sp ∧ es.length = len) := by
  obtain ⟨fuel, hf⟩ := h
  rcases open_slice Tryd.underlying22 hf with ⟨hcs, hx⟩ | ⟨a, l, c, m, n, D, Pl, hcs, _, hl, hm, hmm, hx, hi⟩
  · simp [Value.cells] at hcs
    obtain ⟨rfl, rfl, rfl⟩ := hcs
    exact ⟨[], rfl, Nat.le_refl _, Nat.zero_le _, Kd.C_nil _ _, (fun _ hp => by cases hp), .inl ⟨(Prod.mk.inj hx).1, rfl⟩⟩
  · simp [Value.cells] at hcs
    obtain ⟨rfl, rfl, rfl⟩ := hcs
    obtain ⟨hx, _⟩ := Prod.mk.inj hx
    have hml : len ≤ m := by
      rw [hmm]
      split
      · exact hl
      · exact Nat.le_refl _
    haveI : Inhabited S41 := ⟨z41⟩
    obtain ⟨V, hV⟩ := choose_lt (n := len) (α := S41) (p := fun i p => PartAt W (a.add (i * 3)) p) (fun i hil => by
      obtain ⟨cs', h1, h2⟩ := hi i (by omega)
      rw [cells41] at h1
      exact open_part h1 h2)
    have hget : ∀ i (p : S41), ((List.range len).map V)[i]? = some p → i < len ∧ V i = p := fun i p hp => by
      rw [List.getElem?_map] at hp
      obtain ⟨j, hj, rfl⟩ := Option.map_eq_some_iff.1 hp
      obtain ⟨hjl, hje⟩ := List.getElem?_eq_some_iff.1 hj
      rw [List.getElem_range] at hje
      rw [List.length_range] at hjl
      subst hje
      exact ⟨hjl, rfl⟩
    refine ⟨(List.range len).map V, by simp, hl, Nat.le_trans hl hm, ⟨rfl, ?_, fun _ => ⟨a, rfl, fun j p hj => ?_⟩⟩, fun p hp => ?_, .inr ⟨_, _, hx, by simp⟩⟩
    · have : cap ≤ maxLen := hm
      unfold maxLen at this
      simp only [List.length_map, List.length_range]
      omega
    · obtain ⟨hjl, rfl⟩ := hget j p hj
      refine ⟨[.bool (V j).f0, .int .u64 (V j).f1, .string (V j).f2], rfl, k41_mk W (V j), fun i u hu => ?_⟩
      have := (hV j hjl).2.2 i u hu
      rw [Go.Deep.add_add] at this
      exact this
    · obtain ⟨i, hi⟩ := List.mem_iff_getElem?.1 hp
      obtain ⟨hil, rfl⟩ := hget i p hi
      exact ⟨(hV i hil).1, (hV i hil).2.1⟩

/-- Its length, where the form's reach holds. -/
theorem parts_sized {H : Type} {ts : List TypeId} {ds : List (DataW H)} {j : Nat} {d : DataW H} {len : Nat} (hsz : (DataW.weightsEach Tryd.prog ts ds).all (· ≤ reachBytes) = true) (ht : ts[j]? = some 22) (hd : ds[j]? = some d)
    (h : (d = .nil ∧ len = 0) ∨ ∃ es sp, d = .slice es sp ∧ es.length = len) : len ≤ 140737488351232 := by
  rcases h with ⟨_, rfl⟩ | ⟨es, sp, rfl, rfl⟩
  · exact Nat.zero_le _
  · have z := sized_slice hsz ht hd Tryd.underlying22
    rw [show Tryd.prog.bytesOf 41 = 32 by kernel_rfl] at z
    have hr : reachBytes < 2 ^ 47 := reachBytes_lt
    omega
end Go.Proofs.YtdofoopnjmbmcaaDoor.HandF
