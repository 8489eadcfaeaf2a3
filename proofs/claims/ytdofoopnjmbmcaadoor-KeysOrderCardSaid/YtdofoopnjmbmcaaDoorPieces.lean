/- The iterator 'pieces' of package keys: its rounds come with a text's bytes, each 0 with the byte behind it. -/
import Derived.Outline
import Derived.Lib.Hide
import Derived.Test.YtdofoopnjmbmcaaDoorOrders
import Derived.Test.YtdofoopnjmbmcaaDoorHandB
namespace Go.Proofs.YtdofoopnjmbmcaaDoor.HandF
set_option linter.unusedVariables false
set_option linter.unusedSimpArgs false
open Go.RowKit Go.Shelf Go.Proofs.YtdofoopnjmbmcaaDoor.X Go.Proofs.YtdofoopnjmbmcaaDoor.Blocks Go.Proofs.YtdofoopnjmbmcaaDoor.Range
open Go.Proofs.YtdofoopnjmbmcaaDoorW.PrintWords Go.Proofs.YtdofoopnjmbmcaaDoorW.PrintLast Go.Proofs.YtdofoopnjmbmcaaDoorW.PrintMore
attribute [local go_sem] Oper.semAt_some

/-- A text's bytes, each 0 with the byte behind it. -/
def piecesL : List Int → List (Int × Int)
  | c :: d :: r => if c = 0 then (c, d) :: piecesL r else (c, 255) :: piecesL (d :: r)
  | _ => []

theorem bytesOf_cons (s : ByteArray) (h : 0 < s.size) : bytesOf s = ((s[0]'h).toNat : Int) :: bytesOf (s.extract 1 s.size) := by
  unfold bytesOf
  rw [ByteArray.data_extract, Array.toList_extract, List.extract_eq_take_drop]
  have hl : s.data.toList.length = s.size := by rw [Array.length_toList]; rfl
  rw [List.take_of_length_le (by rw [List.length_drop, hl]; omega)]
  have h1 : s.data.toList = s.data.toList[0]'(by omega) :: s.data.toList.drop 1 := by
    have := List.drop_eq_getElem_cons (l := s.data.toList) (i := 0) (by omega)
    rw [List.drop_zero] at this
    exact this
  conv => lhs; rw [h1]
  rw [List.map_cons]
  rfl
theorem size_rest (s : ByteArray) : (s.extract 1 s.size).size = s.size - 1 := by rw [ByteArray.size_extract]; omega
theorem piecesL_short {l : List Int} (h : l.length ≤ 1) : piecesL l = [] := by
  match l, h with
  | [], _ => rfl
  | [_], _ => rfl
  | _ :: _ :: _, h => simp at h
theorem piecesL_one {c : Int} {l : List Int} (hc : c ≠ 0) (h : 1 ≤ l.length) : piecesL (c :: l) = (c, 255) :: piecesL l := by
  match l, h with
  | d :: r, _ => rw [piecesL, if_neg hc]
theorem piecesL_two {c d : Int} {r : List Int} (hc : c = 0) : piecesL (c :: d :: r) = (c, d) :: piecesL r := by rw [piecesL, if_pos hc]
theorem drop_step {α : Type} {L : List α} {i : Nat} {x : α} {r : List α} (h : L.drop i = x :: r) : L[i]? = some x ∧ L.drop (i + 1) = r ∧ i < L.length := by
  have hlt : i < L.length := by
    rcases Nat.lt_or_ge i L.length with h1 | h1
    · exact h1
    · rw [List.drop_eq_nil_of_le h1] at h; cases h
  rw [List.drop_eq_getElem_cons hlt] at h
  injection h with h1 h2
  exact ⟨by rw [List.getElem?_eq_getElem hlt, h1], h2, hlt⟩

/-- What the iterator does between two rounds. -/
def PieceStep (Bs : Nat) (W W' : World) : Prop := ∃ x, W' = W.setCell ⟨Bs, 0, none⟩ x ∨ W' = (W.setCell ⟨Bs, 0, none⟩ x).drew
/-- What the loop knows at each round's head. -/
def PieceRel (Bs : Nat) (L : List (Int × Int)) (J : Nat → World → Prop) (W : World) : Prop :=
  ∃ (i : Nat) (s : ByteArray), s.size ≤ 140737488355328 ∧ W.heap[Bs]? = some (.cells #[.string s] 9 (0, 0)) ∧ L.drop i = piecesL (bytesOf s) ∧ i ≤ L.length ∧ J i W
def lenAt (b : Nat) (w : World) : Nat := match w.cell? ⟨b, 0, none⟩ with | some (.string s) => s.size | _ => 0
theorem lenAt_eq {b : Nat} {w : World} {s : ByteArray} (h : w.cell? ⟨b, 0, none⟩ = some (.string s)) : lenAt b w = s.size := by simp [lenAt, h]
/-- How a round may end. -/
def PieceEnd (ts : List Nat) (i : Nat) (J : Nat → World → Prop) (Jx : World → Prop) (W : World) (e : Ending) (W' : World) : Prop :=
  ∃ b : Bool, e = .returned (.bool b) ∧ Aside0 (b = true → J (i + 1) W' ∧ KeepsTy ts W W') ∧ Aside0 (b = false → Jx W')

set_option maxRecDepth 100000 in
set_option maxHeartbeats 4000000 in
theorem pieces1_seq (F : Fence) (n : Nat) (h45 : F.fn 45) (hro : F.round = none) (hn : 1 ≤ n) (l Bs : Nat) (s : ByteArray) (hs : s.size ≤ 140737488355328) (ts : List Nat) (h9 : 9 ∉ ts)
    (W : World) (hB : W.heap[Bs]? = some (.cells #[.string s] 9 (0, 0))) :
    SeqAt F n Tryd.prog 45 #[.pointer (some ⟨Bs, 0, none⟩)] (fun x : Int × Int => #[.int .u8 x.1, .int .u8 x.2]) (piecesL (bytesOf s)) (KeepsTy ts) (PieceStep Bs) W l := by
  intro J Jx hJ hJx hY h0
  show CallsIn F n Tryd.prog 45 #[.func (.yield l) #[] #[], .pointer (some ⟨Bs, 0, none⟩)] W _
  obtain ⟨L, hL⟩ : ∃ L, piecesL (bytesOf s) = L := ⟨_, rfl⟩
  rw [hL] at hY ⊢
  refine callsIn_of_wp Tryd.func45 rfl h45 ?_ hro
  simp only [Tryd.ntmps45, List.size_toArray, List.length_cons, List.length_nil, Nat.reduceAdd, Nat.reduceSub, Array.replicate_succ, Array.replicate_zero, List.push_toArray, List.append_toArray, List.nil_append, List.cons_append]
  gi_wp2
  gi_loopw [4] (fun _ wr => PieceRel Bs L J wr) (fun _ wr => lenAt Bs wr)
  case atStart => exact ⟨0, s, hs, hB, by rw [List.drop_zero, hL], Nat.zero_le _, h0⟩
  case round =>
    obtain ⟨i, s', hs', hb, hLi, hi, hJi⟩ := hrel
    have hc := cell_of_one hb
    have hf := free_of_one hb
    have Hb := Aside0.mk hb
    clear hb
    have hbl := bytesOf_length s'
    by_cases h1 : 1 < s'.size
    · have d1 : decide ((1 : Int) < (s'.size : Int)) = true := decide_eq_true (by omega)
      have d1' : decide (1 < s'.size) = true := decide_eq_true h1
      have hz : 0 < s'.size := by omega
      have p0 : (0 : Int) < (s'.size : Int) := by omega
      have p1 : (1 : Int) ≤ (s'.size : Int) := by omega
      have hcons := bytesOf_cons s' hz
      have hsr := size_rest s'
      obtain ⟨s1, hs1⟩ : ∃ s1, s'.extract 1 s'.size = s1 := ⟨_, rfl⟩
      rw [hs1] at hcons hsr
      have hb1 := bytesOf_length s1
      rw [hcons] at hLi
      by_cases c0 : (s'[0]'hz).toNat = 0
      · have e0 : (((s'[0]'hz).toNat : Int) == 0) = true := beq_iff_eq.2 (by omega)
        have hz1 : 0 < s1.size := by omega
        have q0 : (0 : Int) < (s1.size : Int) := by omega
        have q1 : (1 : Int) ≤ (s1.size : Int) := by omega
        have hcons1 := bytesOf_cons s1 hz1
        have hsr1 := size_rest s1
        obtain ⟨s2, hs2⟩ : ∃ s2, s1.extract 1 s1.size = s2 := ⟨_, rfl⟩
        rw [hs2] at hcons1 hsr1
        have hb2l := bytesOf_length s2
        have hzv : ((s'[0]'hz).toNat : Int) = 0 := by omega
        rw [hcons1, hzv, piecesL_two rfl] at hLi
        have HSR := Aside0.mk hsr
        have HSR1 := Aside0.mk hsr1
        clear hsr hsr1
        obtain ⟨g1, g2, g3⟩ := drop_step hLi
        obtain ⟨W1, hW1⟩ : ∃ W1, wr.setCell ⟨Bs, 0, none⟩ (.string s1) = W1 := ⟨_, rfl⟩
        have hbW1 : W1.heap[Bs]? = some (.cells #[.string s1] 9 (0, 0)) := by rw [← hW1]; exact one_setCell Hb.out
        have hJ1 := hJ _ _ _ hJi (⟨.string s1, .inl rfl⟩ : PieceStep Bs wr (wr.setCell ⟨Bs, 0, none⟩ (.string s1)))
        rw [hW1] at hJ1
        have hJ2 := hJ _ _ _ hJ1 (⟨.string s2, .inr rfl⟩ : PieceStep Bs W1 (W1.setCell ⟨Bs, 0, none⟩ (.string s2)).drew)
        have hc1 := cell_of_one hbW1
        have hf1 := free_of_one hbW1
        have HBW1 := Aside0.mk hbW1
        clear hJ1 hbW1
        obtain ⟨fn, tmps, assign, body, hy, hR⟩ := hY i _ _ g1 hJ2
        have hR2 := RoundIn.mono (R' := PieceEnd ts i J Jx (W1.setCell ⟨Bs, 0, none⟩ (.string s2)).drew) hR (by
          rintro e W3 (⟨rfl, h1, h2⟩ | ⟨rfl, h1⟩)
          · exact ⟨true, rfl, ⟨fun _ => ⟨h1, h2⟩⟩, ⟨fun h => by cases h⟩⟩
          · exact ⟨false, rfl, ⟨fun h => by cases h⟩, ⟨fun _ => h1⟩⟩)
        have hR' := Lib.hid hR2
        have hb2 : (W1.setCell ⟨Bs, 0, none⟩ (.string s2)).drew.heap[Bs]? = some (.cells #[.string s2] 9 (0, 0)) := one_setCell HBW1.out
        have fin0 : ∀ W3, J (i + 1) W3 → KeepsTy ts (W1.setCell ⟨Bs, 0, none⟩ (.string s2)).drew W3 → PieceRel Bs L J W3 ∧ lenAt Bs W3 < lenAt Bs wr := by
          intro W3 hJ3 hk3
          have e1 : W3.heap[Bs]? = some (.cells #[.string s2] 9 (0, 0)) := hk3 _ _ _ _ h9 hb2
          have := HSR.out
          have := HSR1.out
          refine ⟨⟨i + 1, s2, by omega, e1, g2, by omega, hJ3⟩, ?_⟩
          rw [lenAt_eq (cell_of_one e1), lenAt_eq hc]
          omega
        have fin := Lib.hid fin0
        clear fin0 hY hR hR2 hJ hJx hJi hJ2 g1 g2 g3 hLi hb1 hbl hcons hcons1 h1 hb2 hzv hb2l
        gi_wp2
        gi_region
        all_goals
          gi_wp2
          refine RoundIn.mono hR'.out ?_
          rintro e W3 ⟨b, rfl, hT, hX⟩
          cases b
          · have hx := Lib.hid (hX.out rfl)
            clear hX hT
            gi_wp2
            refine bodyPost_ret (results_none rfl _ _ _) rfl ?_
            exact ⟨⟨_, rfl⟩, .inr hx.out⟩
          · have hx := Lib.hid (fin.out _ (hT.out rfl).1 (hT.out rfl).2)
            clear hX hT
            gi_wp2
            exact hx.out
      · have e0 : (((s'[0]'hz).toNat : Int) == 0) = false := beq_eq_false_iff_ne.2 (by omega)
        rw [piecesL_one (by omega) (by omega)] at hLi
        obtain ⟨g1, g2, g3⟩ := drop_step hLi
        have hJ1 := hJ _ _ _ hJi (⟨.string s1, .inl rfl⟩ : PieceStep Bs wr (wr.setCell ⟨Bs, 0, none⟩ (.string s1)))
        obtain ⟨fn, tmps, assign, body, hy, hR⟩ := hY i _ _ g1 hJ1
        have hR2 := RoundIn.mono (R' := PieceEnd ts i J Jx (wr.setCell ⟨Bs, 0, none⟩ (.string s1))) hR (by
          rintro e W3 (⟨rfl, h1, h2⟩ | ⟨rfl, h1⟩)
          · exact ⟨true, rfl, ⟨fun _ => ⟨h1, h2⟩⟩, ⟨fun h => by cases h⟩⟩
          · exact ⟨false, rfl, ⟨fun h => by cases h⟩, ⟨fun _ => h1⟩⟩)
        have hR' := Lib.hid hR2
        have hb2 : (wr.setCell ⟨Bs, 0, none⟩ (.string s1)).heap[Bs]? = some (.cells #[.string s1] 9 (0, 0)) := one_setCell Hb.out
        have hc1 := cell_of_one hb2
        have fin0 : ∀ W3, J (i + 1) W3 → KeepsTy ts (wr.setCell ⟨Bs, 0, none⟩ (.string s1)) W3 → PieceRel Bs L J W3 ∧ lenAt Bs W3 < lenAt Bs wr := by
          intro W3 hJ3 hk3
          have e1 : W3.heap[Bs]? = some (.cells #[.string s1] 9 (0, 0)) := hk3 _ _ _ _ h9 hb2
          refine ⟨⟨i + 1, s1, by omega, e1, g2, by omega, hJ3⟩, ?_⟩
          rw [lenAt_eq (cell_of_one e1), lenAt_eq hc]
          omega
        have fin := Lib.hid fin0
        clear fin0 hY hR hR2 hJ hJx hJi hJ1 g1 g2 g3 hLi hb1 hbl hcons c0 h1 hsr hb2
        gi_wp2
        refine RoundIn.mono hR'.out ?_
        rintro e W3 ⟨b, rfl, hT, hX⟩
        cases b
        · have hx := Lib.hid (hX.out rfl)
          clear hX hT
          gi_wp2
          refine bodyPost_ret (results_none rfl _ _ _) rfl ?_
          exact ⟨⟨_, rfl⟩, .inr hx.out⟩
        · have hx := Lib.hid (fin.out _ (hT.out rfl).1 (hT.out rfl).2)
          clear hX hT
          gi_wp2
          exact hx.out
    · have d1 : decide ((1 : Int) < (s'.size : Int)) = false := decide_eq_false (by omega)
      have d1' : decide (1 < s'.size) = false := decide_eq_false h1
      have hie : i = L.length := by
        rw [piecesL_short (by omega)] at hLi
        have h2 := congrArg List.length hLi
        rw [List.length_drop] at h2
        simp only [List.length_nil] at h2
        omega
      subst hie
      clear hY hJ hJx hLi h1
      gi_wp2
      go_end0
      exact ⟨⟨_, rfl⟩, .inl hJi⟩
end Go.Proofs.YtdofoopnjmbmcaaDoor.HandF
