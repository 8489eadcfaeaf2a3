/- A string's bytes appended to a row of the call's own, where the whole is little longer than 2^47. -/
import Derived.Test.YtecfoepcgammcaaWMore
import Derived.Deep.DeepAppendWide
import Derived.Room.AppendFits
namespace Go.Proofs.Ytecfoepcgammcaa.Wide
open Go.RowKit Go.Proofs.YtecfoepcgammcaaW.PrintWords
set_option linter.unusedVariables false
section
variable {P : Program}
theorem run_append_str (w : World) (base : Nat) (t u ty e : TypeId) (i : TypeInfo) (ht : P.underlying t = some (.slice e)) (hu : P.underlying u = some .string) (hi : P.info? e = some i) (hz : i.zero = some (.int .u8 0))
    (hsize : i.size = 1) (hby : i.bytes = 1) (v : Value) (n : Nat) (xs : List Value) (hown : w.ownsRow base e 1 v n xs) (s : ByteArray)
    (hs : s.size ≤ 1048576) (hb : n + s.size ≤ 140737490000000) (hbase : base ≤ w.heap.size) :
    ∃ v' w', (Builtin.append_ #[t, u] ty #[v, .string s]).run P w = .ok v' w' ∧ w'.ownsRow base e 1 v' (n + s.size) (xs ++ Lib.strCells s) ∧ w.grownBy w' v.ownBlock := by
  by_cases small : n + s.size ≤ 140737488355328
  · obtain ⟨v', w', h1, h2, h3, _⟩ := Lib.run_append_own_string (P := P) w base t u ty e i ht hu hi hz hsize hby v n xs hown s (by unfold maxLen; omega) small hbase
    exact ⟨v', w', h1, h2, h3⟩
  have hxl : xs.length = n := by simpa using hown.1
  rcases hown.2 with ⟨_, hx⟩ | ⟨g, cap, cur, rfl, _, _, _, _, _, _⟩
  · omega
  by_cases hroom : n + s.size ≤ cap
  · obtain ⟨w', h1, h2, h3⟩ := Lib.run_append_fits_string (P := P) w base t u ty e i ht hu hi hsize _ n cap xs hown s (by omega) hroom
    exact ⟨_, w', h1, h2, h3⟩
  have hr := Lib.run_append_grow_string (P := P) w t u ty e i (.int .u8 0) ht hu hi hz ⟨g, 0, none⟩ n cap xs (by rw [hsize]; simpa using hxl) (hown.cells (g := g) rfl) s (by omega) (by omega)
    (by rw [hby]; exact growslice_fits_wide (by omega) (by omega))
  have h63 : n + s.size ≤ maxLen := by unfold maxLen; omega
  have hge := grownCap_ge w (n + s.size) cap e
  have hlen : (xs ++ Lib.strCells s).length = (n + s.size) * 1 := by rw [List.length_append, hxl, Lib.strCells_length, Nat.mul_one]
  refine ⟨_, _, hr, ⟨hlen, .inr ⟨w.heap.size, _, _, rfl, hbase, heap_alloc_new w.drew _, hge, grownCap_le_maxLen w (n + s.size) cap e h63, ?_, ?_⟩⟩, ⟨rfl, rfl, rfl, by simp, fun k hk _ => heap_alloc_old w.drew _ hk⟩⟩
  · have hz1 : (Value.int IntKind.u8 0).cells.size = 1 := rfl
    simp only [Array.size_append, List.size_toArray, size_zeroCells, hz1, hxl, Lib.strCells_length]
    omega
  · simp only [Array.toList_append, List.append_assoc]
    rw [← List.append_assoc, ← hlen]
    exact List.take_left
variable {ops : Array Oper} {rest : List Oper} {o : Oper} {a : Act} {Q : Exit → Act → World → Prop}
/-- The same, behind 'at_builtin'. -/
theorem append_str {w0 W : World} (base : Nat) (hgd : o.guard = none) (s x : Operand) (t u e : TypeId)
    (ho : o.op = .call { callee := .builtin .append, args := #[s, x], argTypes := #[t, u] })
    (ht : P.underlying t = some (.slice e)) (hu : P.underlying u = some .string) (hinfo : (P.info? e).map (fun i => (i.zero, i.size, i.bytes)) = some (some (.int .u8 0), 1, 1))
    (v : Value) (xs : List Int) (y : ByteArray) (hs : a.eval s = v) (hx : a.eval x = .string y)
    (HO : W.ownsRow base e 1 v xs.length (nums .u8 xs)) (HB : Below base w0 W) (hbase : base ≤ W.heap.size) (hy : y.size ≤ 1048576) (hl : xs.length + y.size ≤ 140737490000000)
    (h : ∀ v1 w1, w1.ownsRow base e 1 v1 (xs ++ bytesOf y).length (nums .u8 (xs ++ bytesOf y)) → Below base w0 w1 → wpList P ops Q rest (a.put o.dst v1) w1) :
    wpList P ops Q (o :: rest) a W := by
  obtain ⟨i, hi, hzz⟩ := Option.map_eq_some_iff.1 hinfo
  simp only [Prod.mk.injEq] at hzz
  refine wpList_plain hgd fun K hK => ?_
  obtain ⟨v1, w1, hr, hown, hg⟩ := run_append_str (P := P) W base t u o.type e i ht hu hi hzz.1 hzz.2.1 hzz.2.2 v xs.length (nums .u8 xs) HO y hy hl hbase
  have hc : nums .u8 (xs ++ bytesOf y) = nums .u8 xs ++ Lib.strCells y := by
    rw [nums_append]
    congr 1
    simp [nums, bytesOf, Lib.strCells]
  have hl2 : (xs ++ bytesOf y).length = xs.length + y.size := by rw [List.length_append, bytesOf_length]
  unfold Oper.wp execOp
  simp only [ho, resolve, invoke, builtin, Sem.run_bind, Sem.run_pure, Result.andThen_ok, List.map_toArray, List.map_cons, List.map_nil, hs, hx, hr]
  exact hK _ _ (h v1 w1 (by rw [hl2, hc]; exact hown) (HB.grown hg hbase (own_base HO)))
end
end Go.Proofs.Ytecfoepcgammcaa.Wide
