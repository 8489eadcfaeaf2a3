/- Plain facts: keys.Read and the reference's Read. -/
import Derived.Test.YtdofoopnjmbmcaaDoorReadMath
import Derived.Test.YtdofoopnjmbmcaaDoorX14
import Derived.Test.YtdofoopnjmbmcaaDoorX19
namespace Go.Proofs.YtdofoopnjmbmcaaDoor.Math
set_option linter.unusedVariables false
set_option linter.unusedSimpArgs false
open Go.RowKit Go.Proofs.YtdofoopnjmbmcaaDoor.X Go.Proofs.YtdofoopnjmbmcaaDoor.HandF
open Go.Proofs.YtdofoopnjmbmcaaDoorW.PrintWords Go.Proofs.YtdofoopnjmbmcaaDoorW.PrintLast Go.Proofs.YtdofoopnjmbmcaaDoorW.PrintMore

theorem bytes_inj {a b : ByteArray} (h : bytesOf a = bytesOf b) : a = b := by rw [← bytesOf_strOf a, h, bytesOf_strOf]
theorem cut_cut (s : ByteArray) (a n : Nat) : (s.extract a s.size).extract n (s.extract a s.size).size = s.extract (a + n) s.size := by
  apply bytes_inj
  rw [bytes_cut, bytes_cut, bytes_cut, List.drop_drop]
theorem cut_zero (s : ByteArray) : s.extract 0 s.size = s := by
  apply bytes_inj
  rw [bytes_cut, List.drop_zero]
theorem nil_iff (s : ByteArray) : s.toList = [] ↔ s.size = 0 := by
  rw [Lib.toList_data, ← data_length]
  exact List.length_eq_zero_iff.symm
theorem cut_size (s : ByteArray) (a : Nat) (h : a ≤ s.size) : (s.extract a s.size).size = s.size - a := by rw [ByteArray.size_extract]; omega

theorem ref_num (s : ByteArray) (h9 : 9 ≤ s.size) : ∀ (d i k : Nat), i + d = 8 → d < k → pannierref03_first.l0 k s (1 + (i : Int)) false (numI (bytesOf s) i) ⟨#[]⟩ = some (false, numI (bytesOf s) 8, ⟨#[]⟩, 9)
  | 0, i, k, hi, hk => by
    obtain ⟨k, rfl⟩ : ∃ k', k = k' + 1 := ⟨k - 1, by omega⟩
    obtain rfl : i = 8 := by omega
    rw [pannierref03_first.l0, if_neg (by omega)]
  | d + 1, i, k, hi, hk => by
    obtain ⟨k, rfl⟩ : ∃ k', k = k' + 1 := ⟨k - 1, by omega⟩
    have ih := ref_num s h9 d (i + 1) k (by omega) (by omega)
    rw [pannierref03_first.l0, if_pos (by omega), if_pos (by omega), if_pos (by omega), ← rd_bytesOf]
    have e1 : wrap64 (1 + (i : Int) + 1) = 1 + ((i + 1 : Nat) : Int) := by rw [wrap_small (by omega) (by omega)]; omega
    rw [e1]
    exact ih

def textR (xs : List Int) (i : Nat) (o : Option (List Int × Int × Bool)) : Bool × Int × ByteArray × Int :=
  match o with | some (ys, u, true) => (true, 0, strOfNums (xs ++ ys), (i : Int) + u) | _ => (false, 0, ⟨#[]⟩, 0)
theorem textR_map (xs : List Int) (i j : Nat) (c : Int) (o : Option (List Int × Int × Bool)) : textR xs i (o.map (fun t => (c :: t.1, t.2.1 + (j : Int), t.2.2))) = textR (xs ++ [c]) (i + j) o := by
  cases o with
  | none => rfl
  | some t =>
    obtain ⟨ys, u, b⟩ := t
    cases b with
    | false => rfl
    | true =>
      simp only [textR, Option.map_some, List.append_assoc, List.cons_append, List.nil_append, Prod.mk.injEq]
      refine ⟨trivial, trivial, trivial, ?_⟩
      omega

theorem ref_text (s : ByteArray) (hs : s.size ≤ 140737488351232) : ∀ (m i k : Nat) (xs : List Int), s.size ≤ i + m → m < k → xs.length ≤ i → i ≤ s.size → pannierref03_first.l1 k s xs (i : Int) = some (textR xs i (decL ((bytesOf s).drop i))) := by
  intro m
  induction m with
  | zero =>
    intro i k xs h1 h2 h3 h4
    obtain ⟨k, rfl⟩ : ∃ k', k = k' + 1 := ⟨k - 1, by omega⟩
    rw [pannierref03_first.l1, wrap_succ (by omega), if_neg (by omega), List.drop_eq_nil_of_le (by rw [bytesOf_length]; omega)]
    rfl
  | succ m ih =>
    intro i k xs h1 h2 h3 h4
    obtain ⟨k, rfl⟩ : ∃ k', k = k' + 1 := ⟨k - 1, by omega⟩
    rw [pannierref03_first.l1, wrap_succ (by omega)]
    by_cases hi : i + 1 < s.size
    · have hl := bytesOf_length s
      have hd : (bytesOf s).drop i = rd (bytesOf s) (i : Int) :: (bytesOf s).drop (i + 1) := by
        rw [List.drop_eq_getElem_cons (by omega), rd_get (by omega)]
      have hd2 : (bytesOf s).drop (i + 1) = rd (bytesOf s) ((i + 1 : Nat) : Int) :: (bytesOf s).drop (i + 2) := by
        rw [List.drop_eq_getElem_cons (by omega), rd_get (by omega)]
      rw [if_pos (by omega), if_pos (by omega), if_pos (by omega), ← rd_bytesOf, ← rd_bytesOf]
      rw [if_pos (show (0 : Int) ≤ ((i + 1 : Nat) : Int) by omega)]
      by_cases c0 : rd (bytesOf s) (i : Int) = 0
      · rw [if_pos c0, hd, hd2, decL, if_pos c0]
        by_cases c1 : rd (bytesOf s) ((i + 1 : Nat) : Int) = 1
        · rw [if_pos c1, if_neg (by omega), decide_eq_true c1]
          have e2 : wrap64 ((i : Int) + 2) = (i : Int) + 2 := wrap_small (by omega) (by omega)
          rw [e2]
          simp only [textR, List.append_nil]
        · rw [if_neg c1]
          by_cases c2 : rd (bytesOf s) ((i + 1 : Nat) : Int) = 255
          · rw [if_pos c2, if_pos c2, if_pos (by omega), wrap_succ (by omega), ih (i + 1 + 1) k (xs ++ [0]) (by omega) (by omega) (by simp only [List.length_append, List.length_cons, List.length_nil]; omega) (by omega), c0]
            exact congrArg some (textR_map xs i 2 0 _).symm
          · rw [if_neg c2, if_neg c2, decide_eq_false c1]
            rfl
      · rw [if_neg c0, if_pos (by omega), ih (i + 1) k (xs ++ [rd (bytesOf s) (i : Int)]) (by omega) (by omega) (by simp only [List.length_append, List.length_cons, List.length_nil]; omega) (by omega)]
        rw [hd, dec_cons c0 (by rw [List.length_drop]; omega)]
        exact congrArg some (textR_map xs i 1 _ _).symm
    · rw [if_neg (by omega)]
      have : decL ((bytesOf s).drop i) = none := by
        have hlen : ((bytesOf s).drop i).length ≤ 1 := by rw [List.length_drop, bytesOf_length]; omega
        match (bytesOf s).drop i, hlen with
        | [], _ => rfl
        | [_], _ => rfl
      rw [this]
      rfl

theorem refFirst_ev (s : ByteArray) (h : 0 < s.size ∧ s.size ≤ 140737488351232) : Ev (fun k => pannierref03_first.f k s) (firstI (bytesOf s)) := by
  refine ⟨s.size + 20, fun k hk => ?_⟩
  obtain ⟨k, rfl⟩ : ∃ k', k = k' + 1 := ⟨k - 1, by omega⟩
  show pannierref03_first.f (k + 1) s = _
  unfold pannierref03_first.f firstI
  rw [if_pos (by omega), rd_bytesOf, bytesOf_length]
  have p0 : (0 : Int) < (s.size : Int) := by omega
  by_cases c1 : bt s 0 = 1
  · rw [if_pos c1, pannierref03_first.j0]
    by_cases c9 : 9 ≤ s.size
    · have y : bt s 0 = 1 ∧ 9 ≤ s.size := ⟨c1, c9⟩
      have d9 : decide ((s.size : Int) ≥ 9) = true := decide_eq_true (by omega)
      rw [if_pos d9, if_pos y]
      have := ref_num s c9 8 0 k rfl (by omega)
      exact this
    · have y : ¬ (bt s 0 = 1 ∧ 9 ≤ s.size) := fun h => c9 h.2
      have d9 : ¬ (decide ((s.size : Int) ≥ 9) = true) := by rw [decide_eq_false (by omega)]; decide
      have c2 : ¬ bt s 0 = 2 := by omega
      rw [if_neg d9, if_neg y, if_pos p0, if_neg c2, if_neg c2]
  · have y : ¬ (bt s 0 = 1 ∧ 9 ≤ s.size) := fun h => c1 h.1
    rw [if_neg c1, pannierref03_first.j0, if_neg (by decide), if_neg y, if_pos p0]
    by_cases c2 : bt s 0 = 2
    · rw [if_pos c2, if_pos c2]
      have := ref_text s h.2 (s.size - 1) 1 k [] (by omega) (by omega) (by simp) (by omega)
      refine this.trans (congrArg some ?_)
      unfold textR
      rfl
    · rw [if_neg c2, if_neg c2]

/-- Both readings tell the same; where they tell a key, it is laid as what was read. -/
theorem read_both (s : ByteArray) (hs : s.size ≤ 140737488351232) : ∀ (m p : Nat) (acc : List S41), s.size ≤ p + m → p ≤ s.size → acc.length ≤ 8 →
    ∃ (l : List S41) (e : Int), Ev (fun k => keys_Read.l0 k (s.extract p s.size) acc) (l, e) ∧ Ev (fun k => pannierref03_Read.l0 k s acc (p : Int)) (l, e) ∧
      ((e = 0 ∧ rightL l = true ∧ layL l = layL acc ++ (bytesOf s).drop p) ∨ (e = 30 ∧ l = [])) := by
  have fin : ∀ (p : Nat) (acc : List S41), p = s.size → acc.length ≤ 8 →
    ∃ (l : List S41) (e : Int), Ev (fun k => keys_Read.l0 k (s.extract p s.size) acc) (l, e) ∧ Ev (fun k => pannierref03_Read.l0 k s acc (p : Int)) (l, e) ∧
      ((e = 0 ∧ rightL l = true ∧ layL l = layL acc ++ (bytesOf s).drop p) ∨ (e = 30 ∧ l = [])) := by
    intro p acc hp hacc
    have hn : (s.extract p s.size).toList = [] := (nil_iff _).2 (by rw [cut_size _ _ (by omega)]; omega)
    have hd : (bytesOf s).drop p = [] := List.drop_eq_nil_of_le (by rw [bytesOf_length]; omega)
    have hR := refRight_ev acc (by omega)
    refine ⟨if rightL acc = true then acc else [], if rightL acc = true then 0 else 30, ?_, ?_, ?_⟩
    · refine Ev.step (f := fun _ => some (if rightL acc = true then acc else [], if rightL acc = true then (0 : Int) else 30)) (fun k => ?_) (Ev.now _)
      rw [keys_Read.l0, if_pos hn, rightL_eq, Option.bind_some]
      split <;> rfl
    · refine Ev.step (f := fun k => (pannierref03_Right.f k acc).bind fun t => if t = true then some (acc, 0) else some (([] : List S41), 30)) (fun k => ?_) ?_
      · rw [pannierref03_Read.l0, if_neg (by omega)]
      · refine Ev.bind hR ?_
        cases rightL acc
        · exact Ev.now _
        · exact Ev.now _
    · cases hr : rightL acc
      · exact .inr ⟨rfl, rfl⟩
      · exact .inl ⟨rfl, hr, by rw [hd, List.append_nil]; rfl⟩
  intro m
  induction m with
  | zero => exact fun p acc h1 h2 h3 => fin p acc (by omega) h3
  | succ m ih =>
    intro p acc h1 h2 h3
    by_cases hp : p = s.size
    · exact fin p acc hp h3
    have hz := cut_size s p h2
    have hn : ¬ (s.extract p s.size).toList = [] := fun h => by have := (nil_iff _).1 h; omega
    have hf := first_eq (s.extract p s.size) (by omega)
    have hrf := refFirst_ev (s.extract p s.size) (by omega)
    rw [bytes_cut] at hf hrf
    have hby : Bytes ((bytesOf s).drop p) := fun x hx => bytesOf_bytes s x (List.mem_of_mem_drop hx)
    obtain ⟨⟨t, n, q, u⟩, hfi⟩ : ∃ v, firstI ((bytesOf s).drop p) = v := ⟨_, rfl⟩
    rw [hfi] at hf hrf
    by_cases hu : u = 0
    · refine ⟨[], 30, ?_, ?_, .inr ⟨rfl, rfl⟩⟩
      · refine Ev.step (f := fun _ => some (([] : List S41), (30 : Int))) (fun k => ?_) (Ev.now _)
        rw [keys_Read.l0, if_neg hn, hf, Option.bind_some, if_pos hu]
      · refine Ev.step (f := fun k => (pannierref03_first.f k (s.extract p s.size)).bind fun b => if b.2.2.2 = 0 then some (([] : List S41), (30 : Int)) else (if (acc.length : Int) ≥ 8 then (some (([] : List (S41)), 30)) else (if acc.length < 4398046511104 then (pannierref03_Read.l0 k s (acc ++ [(⟨b.1, b.2.1, b.2.2.1⟩ : S41)]) (wrap64 ((p : Int) + b.2.2.2))) else (none)))) (fun k => ?_) ?_
        · rw [pannierref03_Read.l0, if_pos (by omega), if_pos (by omega), if_pos (by omega), Int.toNat_natCast]
        · refine Ev.bind hrf ?_
          simp only [hu]
          exact Ev.now _
    · obtain ⟨r, hr, hul⟩ := first_canon hby hfi hu
      have hlen := congrArg List.length hr
      rw [List.length_drop, bytesOf_length, List.length_append] at hlen
      have hpl : 1 ≤ (partB ⟨t, n, q⟩).length := by
        obtain ⟨x, r', h, _⟩ := part_head ⟨t, n, q⟩
        rw [h]; simp
      obtain ⟨v, hv⟩ : ∃ v, (partB ⟨t, n, q⟩).length = v := ⟨_, rfl⟩
      rw [hv] at hul hlen hpl
      by_cases h8 : acc.length = 8
      · refine ⟨[], 30, ?_, ?_, .inr ⟨rfl, rfl⟩⟩
        · refine Ev.step (f := fun _ => some (([] : List S41), (30 : Int))) (fun k => ?_) (Ev.now _)
          rw [keys_Read.l0, if_neg hn, hf, Option.bind_some, if_neg hu, if_pos (by omega)]
        · refine Ev.step (f := fun k => (pannierref03_first.f k (s.extract p s.size)).bind fun b => if b.2.2.2 = 0 then some (([] : List S41), (30 : Int)) else (if (acc.length : Int) ≥ 8 then (some (([] : List (S41)), 30)) else (if acc.length < 4398046511104 then (pannierref03_Read.l0 k s (acc ++ [(⟨b.1, b.2.1, b.2.2.1⟩ : S41)]) (wrap64 ((p : Int) + b.2.2.2))) else (none)))) (fun k => ?_) ?_
          · rw [pannierref03_Read.l0, if_pos (by omega), if_pos (by omega), if_pos (by omega), Int.toNat_natCast]
          · refine Ev.bind hrf ?_
            refine Ev.congr (fun k => ?_) (Ev.now _)
            rw [if_neg hu, if_pos (by omega)]
      · obtain ⟨l, e, g1, g2, g3⟩ := ih (p + v) (acc ++ [⟨t, n, q⟩]) (by omega) (by omega) (by simp only [List.length_append, List.length_cons, List.length_nil]; omega)
        refine ⟨l, e, ?_, ?_, ?_⟩
        · refine Ev.step (fun k => ?_) g1
          rw [keys_Read.l0, if_neg hn, hf, Option.bind_some, if_neg hu, if_neg (by omega), if_pos (by omega)]
          dsimp only
          rw [if_pos (by omega), if_pos (by omega), hul, Int.toNat_natCast, cut_cut]
        · refine Ev.step (f := fun k => (pannierref03_first.f k (s.extract p s.size)).bind fun b => if b.2.2.2 = 0 then some (([] : List S41), (30 : Int)) else (if (acc.length : Int) ≥ 8 then (some (([] : List (S41)), 30)) else (if acc.length < 4398046511104 then (pannierref03_Read.l0 k s (acc ++ [(⟨b.1, b.2.1, b.2.2.1⟩ : S41)]) (wrap64 ((p : Int) + b.2.2.2))) else (none)))) (fun k => ?_) ?_
          · rw [pannierref03_Read.l0, if_pos (by omega), if_pos (by omega), if_pos (by omega), Int.toNat_natCast]
          · refine Ev.bind hrf ?_
            refine Ev.congr (fun k => ?_) g2
            have ew : wrap64 ((p : Int) + u) = ((p + v : Nat) : Int) := by rw [wrap_small (by omega) (by omega)]; omega
            dsimp only
            rw [if_neg hu, if_neg (by omega), if_pos (by omega), ew]
        · rcases g3 with ⟨he, hrl, hll⟩ | h30
          · refine .inl ⟨he, hrl, ?_⟩
            rw [hll, layL_append, hr, List.append_assoc]
            congr 1
            rw [show layL [⟨t, n, q⟩] = partB ⟨t, n, q⟩ by unfold layL; simp]
            congr 1
            rw [← List.drop_drop, hr, ← hv, List.drop_left]
          · exact .inr h30

theorem read_ev (s : ByteArray) (hs : s.size ≤ 140737488351232) : ∃ (l : List S41) (e : Int), Ev (fun k => keys_Read.f k s) (l, e) ∧ Ev (fun k => pannierref03_Read.f k s) (l, e) ∧ ((e = 0 ∧ rightL l = true ∧ strOfNums (layL l) = s) ∨ (e = 30 ∧ l = [])) := by
  obtain ⟨l, e, g1, g2, g3⟩ := read_both s hs s.size 0 [] (by omega) (by omega) (by simp)
  rw [cut_zero] at g1
  refine ⟨l, e, g1, g2, ?_⟩
  rcases g3 with ⟨he, hr, hl⟩ | h
  · exact .inl ⟨he, hr, by rw [hl, List.drop_zero]; exact bytesOf_strOf s⟩
  · exact .inr h
end Go.Proofs.YtdofoopnjmbmcaaDoor.Math
