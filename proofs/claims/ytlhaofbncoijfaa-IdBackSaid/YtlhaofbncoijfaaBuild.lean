/- strings.Builder: copyCheck and WriteByte at this dump. -/
import Derived.Test.YtlhaofbncoijfaaShelf
import Derived.Test.YtlhaofbncoijfaaX0
import Derived.Test.YtlhaofbncoijfaaBlocks
import Derived.Lib.Hide
namespace Go.Proofs.Ytlhaofbncoijfaa.HandF
set_option linter.unusedVariables false
set_option linter.unusedSimpArgs false
open Go.RowKit Go.Proofs.Ytlhaofbncoijfaa.X Go.Proofs.Ytlhaofbncoijfaa.Blocks
open Go.Proofs.YtlhaofbncoijfaaW.PrintWords Go.Proofs.YtlhaofbncoijfaaW.PrintLast Go.Proofs.YtlhaofbncoijfaaW.PrintMore

theorem sizeBuilder : (Try.prog.info? 67).map (fun i => i.size) = some 2 := by kernel_rfl
set_option maxRecDepth 100000 in
theorem check_used (b : Nat) (w : World) (h0 : w.cell? ⟨b, 0, none⟩ = some (.pointer (some ⟨b, 0, none⟩))) :
    Calls Try.prog 77 #[.pointer (some ⟨b, 0, none⟩)] w fun e w' => e = .returned (.tuple #[]) ∧ w' = w := by
  obtain ⟨j, hj, _⟩ := Option.map_eq_some_iff.1 sizeBuilder
  have hu67 := Try.underlying67
  have hu65 := Try.underlying65
  go_enter Try.func77, Try.ntmps77
  go_wp2
  rw [Lib.run_neq_ptr_same w _ Try.underlying65 hj]
  go_wp2
  go_end0
  exact ⟨rfl, rfl⟩
set_option maxRecDepth 100000 in
theorem check_fresh (b : Nat) (w : World) (h0 : w.cell? ⟨b, 0, none⟩ = some (.pointer none)) (hsh : w.shape? b = some (67, 2)) (hfz : w.frozen? ⟨b, 0, none⟩ = false) :
    Calls Try.prog 77 #[.pointer (some ⟨b, 0, none⟩)] w fun e w' => e = .returned (.tuple #[]) ∧ w' = w.setCell ⟨b, 0, none⟩ (.pointer (some ⟨b, 0, none⟩)) := by
  obtain ⟨j, hj, hjs⟩ := Option.map_eq_some_iff.1 sizeBuilder
  have hu67 := Try.underlying67
  have hu65 := Try.underlying65
  have hu110 := Try.underlying110
  go_enter Try.func77, Try.ntmps77
  go_wp2
  rw [Lib.run_to_unsafe w ⟨b, 0, none⟩ Try.underlying65 Try.underlying110 hj (by rw [hjs]; decide) hsh (Nat.zero_lt_succ 1)]
  simp only [Result.andThen]
  rw [Oper.upon_value]
  go_wp2
  rw [run_callFunc_extern Try.func83 (by kernel_rfl) (by kernel_rfl) (by kernel_rfl) (e := Extern.AbiNoEscape.same) (by kernel_rfl)]
  rw [Lib.run_noEscape]
  simp only [Result.andThen]
  rw [Oper.upon_value]
  go_wp2
  rw [Lib.run_from_unsafe w ⟨b, 0, none⟩ Try.underlying110 Try.underlying65 hj hsh Try.Builder_Extra_169.liesBuilder]
  simp only [Result.andThen]
  rw [Oper.upon_value]
  go_wp2
  go_end0
  exact ⟨rfl, rfl⟩
/-- A builder in block b whose bytes lie in blocks from N on. -/
def BAt (N b : Nat) (p : Value) (bs : List Value) (w : World) : Prop := b < N ∧ ∃ v, w.heap[b]? = some (.cells #[p, v] 67 (0, 0)) ∧ w.ownsRow N 5 1 v bs.length bs
def BIs (N b : Nat) (bs : List Value) (w : World) : Prop := BAt N b (.pointer none) bs w ∨ BAt N b (.pointer (some ⟨b, 0, none⟩)) bs w
/-- What a writer keeps: blocks ahead of N but b, and all cells that are neither builders nor bytes. -/
structure BKeep (N b : Nat) (w w' : World) : Prop where
  below : Below b w w'
  same : ∀ j, j < N → j ≠ b → w'.heap[j]? = w.heap[j]?
  ty : KeepsTy [67, 5] w w'
theorem BKeep.refl (N b : Nat) (w : World) : BKeep N b w w := ⟨Below.refl _ _, fun _ _ _ => rfl, KeepsTy.refl _ _⟩
theorem BKeep.trans {N b : Nat} {x y z : World} (h : BKeep N b x y) (k : BKeep N b y z) : BKeep N b x z := ⟨h.below.trans k.below, fun j h1 h2 => (k.same j h1 h2).trans (h.same j h1 h2), h.ty.trans k.ty⟩
theorem BKeep.fresh {N b : Nat} {w w' : World} (hN : N ≤ w.heap.size) (hb : b ≤ N) (h : Below w.heap.size w w') : BKeep N b w w' := ⟨h.mono (by omega), fun j hj _ => h.block j (by omega), KeepsTy.below h⟩
theorem BAt.below {N b : Nat} {p : Value} {bs : List Value} {w w' : World} (h : BAt N b p bs w) (hb : Below w.heap.size w w') : BAt N b p bs w' := by
  obtain ⟨h1, v, h2, h3⟩ := h
  exact ⟨h1, v, blk_below h2 hb, own_move h3 (fun k hk => by obtain ⟨c, hc⟩ := own_block h3 k hk; exact (blk_below hc hb).trans hc.symm)⟩
theorem BIs.below {N b : Nat} {bs : List Value} {w w' : World} (h : BIs N b bs w) (hb : Below w.heap.size w w') : BIs N b bs w' := h.imp (fun h => h.below hb) (fun h => h.below hb)
theorem own_lower {w : World} {base base' e size n : Nat} {v : Value} {xs : List Value} (h : w.ownsRow base e size v n xs) (hb : base' ≤ base) : w.ownsRow base' e size v n xs := by
  obtain ⟨h1, h2 | ⟨g, cap, cur, hv, hg, h3⟩⟩ := h
  · exact ⟨h1, .inl h2⟩
  · exact ⟨h1, .inr ⟨g, cap, cur, hv, Nat.le_trans hb hg, h3⟩⟩
theorem BAt.std {N b : Nat} {p : Value} {bs : List Value} {w : World} (h : BAt N b p bs w) : Lib.BuilderAt 67 5 b b p bs w := by
  obtain ⟨h1, v, h2, h3⟩ := h
  exact ⟨Nat.le_refl _, v, h2, own_lower h3 (by omega), fun e => by have := own_base h3 b e; omega⟩
theorem BIs.std {N b : Nat} {bs : List Value} {w : World} (h : BIs N b bs w) : Lib.IsBuilder 67 5 b b bs w := h.imp BAt.std BAt.std

theorem check_calls (N b : Nat) (bs : List Value) (w : World) (h : BIs N b bs w) :
    Calls Try.prog 77 #[.pointer (some ⟨b, 0, none⟩)] w fun e w' => e = .returned (.tuple #[]) ∧ BAt N b (.pointer (some ⟨b, 0, none⟩)) bs w' ∧ BKeep N b w w' := by
  rcases h with h | h
  · refine (check_fresh b w h.std.cell0 h.std.shape h.std.frozen0).mono ?_
    rintro e w' ⟨rfl, rfl⟩
    obtain ⟨h1, v, h2, h3⟩ := h
    refine ⟨rfl, ⟨h1, v, set0 h2, ownsRow_setCell_below h3 h1 _⟩, (Below.refl b w).setCell (p := ⟨b, 0, none⟩) (Nat.le_refl _) _, fun j _ hj => set_other (by simpa using hj), KeepsTy.setCell h2 (by simp) 0 _⟩
  · refine (check_used b w h.std.cell0).mono ?_
    rintro e w' ⟨rfl, rfl⟩
    exact ⟨rfl, h, BKeep.refl _ _ _⟩

set_option maxRecDepth 100000 in
theorem byte_calls (N b : Nat) (bs : List Value) (c : Int) (w : World) (h : BIs N b bs w) (hlen : bs.length + 1 ≤ 140737488355328) (hN : N ≤ w.heap.size) :
    Calls Try.prog 69 #[.pointer (some ⟨b, 0, none⟩), .int .u8 c] w fun e w' => e = .returned .nilIface ∧ BAt N b (.pointer (some ⟨b, 0, none⟩)) (bs ++ [.int .u8 c]) w' ∧ BKeep N b w w' := by
  obtain ⟨i0, hi, hz0, hz1, hz2⟩ := info_parts Try.Builder_Extra_169.infoByte
  have hu67 := Try.underlying67
  have hu65 := Try.underlying65
  have hu43 := Try.underlying43
  have hu5 := Try.underlying5
  go_enter Try.func69, Try.ntmps69
  go_wp2_with (go_at_call 77; refine (check_calls N b bs _ h).mono ?_)
  rintro e w1 ⟨rfl, h1, hk1⟩
  have HKT := Lib.hid hk1
  have hs1 := hk1.below.size
  clear hk1
  obtain ⟨hbN, v, hbk, hown⟩ := h1
  have c0 : w1.cell? ⟨b, 0, none⟩ = some (.pointer (some ⟨b, 0, none⟩)) := by rw [Lib.cell_of_heap hbk]; rfl
  have c1 : w1.cell? ⟨b, 1, none⟩ = some v := by rw [Lib.cell_of_heap hbk]; rfl
  go_wp2_with (at_builtin; refine wpList_append_own _ rfl _ _ 43 rfl N 5 i0 (.int .u8 0) 1 1 hu43 hi hz0 hz1 hz2 rfl (by decide) _ _ _ rfl (hown.alloc _) ⟨w1.heap.size, 0, none⟩ 1 1 [.int .u8 c] rfl rfl ?c1 ?c2 ?c3 ?c4 ?c5 ?_)
  case c1 =>
    intro j u hj
    match j, hj with
    | 0, hj => simp at hj; subst hj; simp [Addr.add]
  case c2 => intro u hu; simp at hu; subst hu; rfl
  case c3 => unfold maxLen; omega
  case c4 => omega
  case c5 => simp; omega
  intro v' w2 hown' hgrow _
  have hlt : b < w1.heap.size := by
    rcases Nat.lt_or_ge b w1.heap.size with h' | h'
    · exact h'
    · simp [Array.getElem?_eq_none h'] at hbk
  have hb2 : w2.heap[b]? = some (.cells #[.pointer (some ⟨b, 0, none⟩), v] 67 (0, 0)) := by
    rw [hgrow.block b (by simp; omega) (fun e => by have := own_base hown b e.symm; omega), Lib.alloc_old w1 _ b hlt]
    exact hbk
  have d0 : w2.cell? ⟨b, 0, none⟩ = some (.pointer (some ⟨b, 0, none⟩)) := by rw [Lib.cell_of_heap hb2]; rfl
  have d1 : w2.cell? ⟨b, 1, none⟩ = some v := by rw [Lib.cell_of_heap hb2]; rfl
  have f1 : w2.frozen? ⟨b, 1, none⟩ = false := Lib.frozen_of_heap hb2 1
  obtain ⟨g, cap, rfl⟩ : ∃ g cap, v' = .slice (some ⟨g, 0, none⟩) (bs.length + 1) cap := by
    rcases hown'.2 with ⟨_, h0⟩ | ⟨g, cap, cur, hv, _⟩
    · omega
    · exact ⟨g, cap, hv⟩
  have k2 : BKeep N b w1 (w2.setCell ⟨b, 1, none⟩ (.slice (some ⟨g, 0, none⟩) (bs.length + 1) cap)) := by
    refine ⟨(((Below.refl b _).alloc (by omega) _).grown hgrow (by simp; omega) (fun k hk => by have := own_base hown k hk; omega)).setCell (p := ⟨b, 1, none⟩) (Nat.le_refl b) _, fun j hj hne => ?_,
      (KeepsTy.alloc _ _ _).trans ((KeepsTy.of_grownBy hgrow (fun j hj => by obtain ⟨cs, hcs⟩ := own_block (hown.alloc _) j hj; exact ⟨cs, 5, (0, 0), by simp, hcs⟩)).trans (KeepsTy.setCell hb2 (by simp) 1 _))⟩
    rw [set_other (by simpa using hne), hgrow.block j (by simp; omega) (fun e => by have := own_base hown j e.symm; omega), Lib.alloc_old w1 _ j (by omega)]
  have K2 := Lib.hid (HKT.out.trans k2)
  clear k2
  go_wp2
  go_ret
  exact ⟨rfl, ⟨hbN, _, set1 hb2, ownsRow_setCell_below (by simpa using hown') hbN _⟩, K2.out⟩
end Go.Proofs.Ytlhaofbncoijfaa.HandF
