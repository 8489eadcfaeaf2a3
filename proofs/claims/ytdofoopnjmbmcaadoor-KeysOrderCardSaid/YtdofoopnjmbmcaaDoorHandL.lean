/- A contract by hand: keys.Lay. -/
import Derived.Test.YtdofoopnjmbmcaaDoorHandR
import Derived.Test.YtdofoopnjmbmcaaDoorHandE
namespace Go.Proofs.YtdofoopnjmbmcaaDoor.HandF
set_option linter.unusedVariables false
set_option linter.unusedSimpArgs false
open Go.RowKit Go.Proofs.YtdofoopnjmbmcaaDoor.X Go.Proofs.YtdofoopnjmbmcaaDoor.Blocks
open Go.Proofs.YtdofoopnjmbmcaaDoorW.PrintWords Go.Proofs.YtdofoopnjmbmcaaDoorW.PrintLast Go.Proofs.YtdofoopnjmbmcaaDoorW.PrintMore

theorem C_marked (w : World) (l : List Int) (hl : l.length ≤ 9223372036854775807) (fr : Nat × Nat) (W : World) (hW : W = w.alloc (.cells (l.map (Value.int .u8)).toArray 5 fr)) :
    (Kd.int .u8).C W (some ⟨w.heap.size, 0, none⟩) l.length l := by
  subst hW
  refine ⟨rfl, hl, fun _ => ⟨_, rfl, fun j p hj => ⟨[.int .u8 p], rfl, rfl, fun i u hi => ?_⟩⟩⟩
  cases i with
  | succ i => simp at hi
  | zero =>
    obtain rfl : Value.int .u8 p = u := by simpa using hi
    have h := alloc_new w (.cells (l.map (Value.int .u8)).toArray 5 fr)
    have e : (⟨w.heap.size, 0, none⟩ : Addr).add (j * 1 + 0) = ⟨w.heap.size, j, none⟩ := by
      rw [Nat.mul_one, Nat.add_zero]; exact YtdofoopnjmbmcaaDoorW.PrintWords.add_plain _ _
    show (w.alloc _).cell? ((⟨w.heap.size, 0, none⟩ : Addr).add (j * 1 + 0)) = _
    rw [e]
    simp only [World.cell?, h]
    simp [hj]

/-- A number's eight bytes. -/
def be8 (n : Int) : List Int := (List.range 8).map fun (i : Nat) => n / 2 ^ (56 - 8 * i) % 256
/-- A part's bytes. -/
def partB (p : S41) : List Int := if p.f0 = true then [2] ++ bytesOf (escS p.f2) ++ [0, 1] else [1] ++ be8 p.f1
def keys_Lay.f (l : List S41) : Option (ByteArray × Int) :=
  (keys_Right.f l).bind fun r => if r = true then some (strOfNums (l.map partB).flatten, 0) else some (⟨#[]⟩, 2)

theorem right_size {p : S41} (h : rightP p = true) : p.f0 = true → p.f2.size ≤ 512 := by
  intro h0
  unfold rightP at h
  rw [if_pos h0, Bool.and_eq_true] at h
  exact of_decide_eq_true h.2

theorem escS_size (s : ByteArray) : (escS s).size ≤ 2 * s.size := by
  have h : (escS s).size = (Math.escU s.data.toList).length := by unfold escS; simp [ByteArray.size]
  rw [h, Math.escU_length, size_toList]
  have := List.count_le_length (a := (0 : UInt8)) (l := s.data.toList)
  rw [size_toList] at this
  omega

theorem partB_length {p : S41} (h : rightP p = true) : (partB p).length ≤ 1027 := by
  unfold partB
  by_cases h0 : p.f0 = true
  · rw [if_pos h0]
    have h1 := right_size h h0
    have h2 := escS_size p.f2
    simp only [List.length_append, List.length_cons, List.length_nil, bytesOf_length]
    omega
  · rw [if_neg h0]
    simp [be8]

theorem laid_length : ∀ {l : List S41}, l.all rightP = true → (l.map partB).flatten.length ≤ 1027 * l.length
  | [], _ => by simp
  | p :: l, h => by
    rw [List.all_cons, Bool.and_eq_true] at h
    have h1 := laid_length h.2
    have h2 := partB_length h.1
    simp only [List.map_cons, List.flatten_cons, List.length_append, List.length_cons]
    omega
theorem laid_step (l : List S41) (i : Nat) (h : i < l.length) : ((l.take (i + 1)).map partB).flatten = ((l.take i).map partB).flatten ++ partB l[i] := by
  rw [List.take_succ_eq_append_getElem h, List.map_append, List.flatten_append]
  simp

theorem be8_step (n : Int) : ∀ j : Fin 8, (be8 n).take (j.val + 1) = (be8 n).take j.val ++ [n / 2 ^ (56 - 8 * j.val) % 256] := by
  intro j
  match j with
  | ⟨0, _⟩ => rfl
  | ⟨1, _⟩ => rfl
  | ⟨2, _⟩ => rfl
  | ⟨3, _⟩ => rfl
  | ⟨4, _⟩ => rfl
  | ⟨5, _⟩ => rfl
  | ⟨6, _⟩ => rfl
  | ⟨7, _⟩ => rfl

set_option maxRecDepth 100000 in
set_option maxHeartbeats 4000000 in
theorem keys_Lay.calls (A0 : Option Addr) (c0 : Nat) (l0 : List S41) (r1 : ByteArray) (r2 : Int) (w : World) (hr0 : Kd.C k41 w A0 l0.length l0) (hc0 : l0.length ≤ c0) (h : keys_Lay.f l0 = some (r1, r2)) :
    Calls Tryd.prog 13 #[.slice A0 l0.length c0] w fun e w' => e = .returned (.tuple #[.string r1, .int .i64 r2]) ∧ Below w.heap.size w w' := by
  have hu41 := Tryd.underlying41
  unfold keys_Lay.f at h
  obtain ⟨q, hq, h⟩ := Option.bind_eq_some_iff.1 h
  have HC := Aside0.mk hr0
  have HQ := Aside0.mk hq
  have hR := fun w hC => keys_Right.calls A0 c0 l0 q w hC hc0 hq
  have HR := Aside0.mk hR
  clear hR hr0
  cases q with
  | false =>
    rw [if_neg (by decide)] at h
    simp only [Option.some.injEq, Prod.mk.injEq] at h
    obtain ⟨rfl, rfl⟩ := h
    clear hq
    go_enter Tryd.func13, Tryd.ntmps13
    go_wp2_with (go_at_call 20; (with_reducible refine (HR.out _ HC.out).mono ?_); rintro e w' ⟨rfl, hb⟩; have HB := Aside0.mk hb; clear hb)
    go_ret2
    exact ⟨rfl, HB.out⟩
  | true =>
    rw [if_pos rfl] at h
    simp only [Option.some.injEq, Prod.mk.injEq] at h
    obtain ⟨h1, rfl⟩ := h
    have H1 := Aside0.mk h1
    unfold keys_Right.f at hq
    have hq2 := Option.some.inj hq
    rw [Bool.and_eq_true, Bool.and_eq_true] at hq2
    obtain ⟨⟨_, h8⟩, hall⟩ := hq2
    have hl8 : l0.length ≤ 8 := of_decide_eq_true h8
    have HALL := Aside0.mk hall
    clear hq h8 hall h1 h
    go_enter Tryd.func13, Tryd.ntmps13
    go_wp2_with (go_at_call 20; (with_reducible refine (HR.out _ HC.out).mono ?_); rintro e w' ⟨rfl, hb⟩; have HB := Aside0.mk hb; clear hb)
    have HBW := HB
    clear HB
    go_loopw [4, 13] (fun v4 v13 wr => ∃ i : Nat, v13 = .int .i64 (i : Int) ∧ i ≤ l0.length ∧ Aside0 (wr.ownsRow w.heap.size 5 1 v4 ((l0.take i).map partB).flatten.length (nums .u8 ((l0.take i).map partB).flatten)) ∧ Aside0 (Below w.heap.size w wr)) (fun _ v13 _ => l0.length - (intOf v13).toNat)
    case atStart => exact ⟨0, rfl, Nat.zero_le _, ⟨own_nil _ _ _ _⟩, HBW⟩
    case round =>
      obtain ⟨wo, hwo⟩ : ∃ wo : World, wo = wr := ⟨_, rfl⟩
      subst hwo
      obtain ⟨i, rfl, hi, HO, HB⟩ := hrel
      have hz := HB.out.size
      by_cases h1 : i < l0.length
      · have d1 : decide ((i : Int) < (l0.length : Int)) = true := decide_eq_true (by omega)
        have d1' : decide (i < l0.length) = true := decide_eq_true h1
        have p0 : (0 : Int) ≤ (i : Int) := Int.natCast_nonneg i
        have p1 : (i : Int) < (l0.length : Int) := by omega
        have H2 := Aside0.mk h1
        obtain ⟨ad, e, c0', c1', c2'⟩ := at_T41 HC.out (i : Int) p0 p1
        cases e
        have hstep := laid_step l0 i h1
        have hright := List.all_eq_true.1 HALL.out l0[i] (List.getElem_mem h1)
        rw [← rd_T41_get l0 i h1] at hstep hright
        have hlen := laid_length (l := l0.take i) (List.all_eq_true.2 fun x hx => List.all_eq_true.1 HALL.out x (List.mem_of_mem_take hx))
        have hlt : (l0.take i).length ≤ 8 := by rw [List.length_take]; omega
        obtain ⟨x, hx⟩ : ∃ x, rd_T41 l0 (i : Int) = x := ⟨_, rfl⟩
        rw [hx, Int.toNat_natCast] at c0' c1' c2'
        rw [hx] at hstep hright
        obtain ⟨xs, hxs⟩ : ∃ xs, ((l0.take i).map partB).flatten = xs := ⟨_, rfl⟩
        have hxl : xs.length ≤ 8216 := by rw [← hxs]; omega
        rw [hxs] at hstep HO
        have HST := Aside0.mk hstep
        have HRI := Aside0.mk hright
        replace c0' := (HB.out.cell (World.block_lt_of_cell? w _ c0')).trans c0'
        replace c1' := (HB.out.cell (World.block_lt_of_cell? w _ c1')).trans c1'
        replace c2' := (HB.out.cell (World.block_lt_of_cell? w _ c2')).trans c2'
        obtain ⟨xb, xn, xt⟩ := x
        clear hstep hright hx hxs hlen hlt h1
        obtain ⟨A4, c4, rfl⟩ := own_slice HO.out
        have hlt4 : ∀ j, (Value.slice A4 xs.length c4).ownBlock = some j → j < wo.heap.size := fun j hj => own_lt HO.out j hj
        have HLT := Aside0.mk hlt4
        clear hlt4
        cases xb with
        | false =>
          go_upto_region 8 with (fail)
          obtain ⟨W0, hW0⟩ : ∃ W0, wo.alloc (.cells #[.bool false, .int .u64 xn, .string xt] 41) = W0 := ⟨_, rfl⟩
          rw [hW0]
          have HO0 : Aside0 (W0.ownsRow w.heap.size 5 1 (.slice A4 xs.length c4) xs.length (nums .u8 xs)) := ⟨by rw [← hW0]; exact HO.out.alloc _⟩
          have HB0 : Aside0 (Below w.heap.size w W0) := ⟨by rw [← hW0]; exact HB.out.alloc hz _⟩
          have h60 : Aside0 (W0.heap[wo.heap.size]? = some (.cells #[.bool false, .int .u64 xn, .string xt] 41 (0, 0))) := ⟨by rw [← hW0]; exact alloc_new wo _⟩
          have hz0 := HB0.out.size
          clear hW0
          go_wp2_with (at_builtin; refine print_append_num (w0 := w) w.heap.size rfl _ _ 45 5 .u8 1 rfl Tryd.underlying45 info5 (by decide) (.slice A4 xs.length c4) xs _ rfl rfl HO0.out HB0.out hz0 (by omega) ?_; intro v2 w2 hown2 hb2 hg2 hat2; have HO2 := Aside0.mk hown2; have HB2 := Aside0.mk hb2; have HG2 := Aside0.mk hg2; clear hown2 hb2 hg2 hat2)
          have h6 : w2.heap[wo.heap.size]? = some (.cells #[.bool false, .int .u64 xn, .string xt] 41 (0, 0)) := (HG2.out.block wo.heap.size (lt_of h60.out) (fun e => by have := HLT.out _ e.symm; omega)).trans h60.out
          have H6 := Aside0.mk h6
          clear HG2 h6
          go_loopw [4, 23] (fun v4 v23 wx => ∃ j : Nat, v23 = .int .i64 (j : Int) ∧ j ≤ 8 ∧ Aside0 (wx.ownsRow w.heap.size 5 1 v4 (xs ++ [1] ++ (be8 xn).take j).length (nums .u8 (xs ++ [1] ++ (be8 xn).take j))) ∧ Aside0 (Below w.heap.size w wx) ∧ Aside0 (wx.heap[wo.heap.size]? = some (.cells #[.bool false, .int .u64 xn, .string xt] 41 (0, 0)))) (fun _ v23 _ => 8 - (intOf v23).toNat)
          case atStart => exact ⟨0, rfl, Nat.zero_le _, ⟨by simpa using HO2.out⟩, HB2, H6⟩
          case round =>
            obtain ⟨j, rfl, hj, HOx, HBx, H6x⟩ := hrel
            by_cases h2 : j < 8
            · have e1 : decide ((j : Int) < 8) = true := decide_eq_true (by omega)
              have p2 : (0 : Int) ≤ (j : Int) := Int.natCast_nonneg j
              have p3 : (j : Int) < 8 := by omega
              have p4 : (j : Int) ≤ 7 := by omega
              have cf1 : wr.cell? ⟨wo.heap.size, 1, none⟩ = some (.int .u64 xn) := by simp [World.cell?, H6x.out]
              obtain ⟨ys, hys⟩ : ∃ ys, xs ++ [1] ++ (be8 xn).take j = ys := ⟨_, rfl⟩
              have hyl : ys.length ≤ 8230 := by rw [← hys]; simp only [List.length_append, List.length_take, List.length_cons, List.length_nil]; omega
              have HYS := Aside0.mk hys
              rw [hys] at HOx
              obtain ⟨A5, c5, rfl⟩ := own_slice HOx.out
              have hbx := HBx.out.size
              have H2' := Aside0.mk h2
              clear hys h2
              go_wp2_with (at_builtin; refine print_append_num (w0 := w) w.heap.size rfl _ _ 45 5 .u8 1 rfl Tryd.underlying45 info5 (by decide) (.slice A5 ys.length c5) ys _ rfl rfl HOx.out HBx.out hbx (by omega) ?_; intro v7 w7 hown7 hb7 hg7 hat7; have HO7 := Aside0.mk hown7; have HB7 := Aside0.mk hb7; have HG7 := Aside0.mk hg7; clear hown7 hb7 hg7 hat7)
              have h67 : Aside0 (w7.heap[wo.heap.size]? = some (.cells #[.bool false, .int .u64 xn, .string xt] 41 (0, 0))) := ⟨(HG7.out.block wo.heap.size (lt_of H6x.out) (fun e => Blocks.own_ne HOx.out H6x.out (by decide) e.symm)).trans H6x.out⟩
              clear HG7
              go_roundw
              case rel => exact ⟨j + 1, by go_num, by have := H2'.out; omega, ⟨by have h8 := be8_step xn ⟨j, H2'.out⟩; dsimp only at h8; rw [h8, ← List.append_assoc, HYS.out]; exact HO7.out⟩, HB7, h67⟩
              case measure => have := H2'.out; simp [intOf] <;> omega
            · have e1 : decide ((j : Int) < 8) = false := decide_eq_false (by omega)
              obtain rfl : j = 8 := by omega
              obtain ⟨A5, c5, rfl⟩ := own_slice HOx.out
              have hown := HOx.out
              rw [List.take_of_length_le (show (be8 xn).length ≤ 8 by simp [be8])] at hown
              have HOE : Aside0 (wr.ownsRow w.heap.size 5 1 (.slice A5 (xs ++ [1] ++ List.take 8 (be8 xn)).length c5) ((l0.take (i + 1)).map partB).flatten.length (nums .u8 ((l0.take (i + 1)).map partB).flatten)) := ⟨by rw [HST.out]; unfold partB; rw [if_neg (show ¬ (false = true) by decide), ← List.append_assoc]; exact hown⟩
              clear h2 hown
              go_wp2
              go_roundw
              case rel => exact ⟨i + 1, by go_num, by have := H2.out; omega, HOE, HBx⟩
              case measure => have := H2.out; simp [intOf] <;> omega
        | true =>
          have hsz := right_size HRI.out rfl
          dsimp only at hsz
          go_upto_region 14 with (fail)
          obtain ⟨W0, hW0⟩ : ∃ W0, wo.alloc (.cells #[.bool true, .int .u64 xn, .string xt] 41) = W0 := ⟨_, rfl⟩
          rw [hW0]
          have HO0 : Aside0 (W0.ownsRow w.heap.size 5 1 (.slice A4 xs.length c4) xs.length (nums .u8 xs)) := ⟨by rw [← hW0]; exact HO.out.alloc _⟩
          have HB0 : Aside0 (Below w.heap.size w W0) := ⟨by rw [← hW0]; exact HB.out.alloc hz _⟩
          have h60 : Aside0 (W0.heap[wo.heap.size]? = some (.cells #[.bool true, .int .u64 xn, .string xt] 41 (0, 0))) := ⟨by rw [← hW0]; exact alloc_new wo _⟩
          have hz0 := HB0.out.size
          clear hW0
          go_wp2_with (at_builtin; refine print_append_num (w0 := w) w.heap.size rfl _ _ 45 5 .u8 1 rfl Tryd.underlying45 info5 (by decide) (.slice A4 xs.length c4) xs _ rfl rfl HO0.out HB0.out hz0 (by omega) ?_; intro v2 w2 hown2 hb2 hg2 hat2; have HO2 := Aside0.mk hown2; have HB2 := Aside0.mk hb2; have HG2 := Aside0.mk hg2; have hcf2 : w2.cell? ⟨wo.heap.size, 2, none⟩ = some (.string xt) := (by have h6 := (HG2.out.block wo.heap.size (lt_of h60.out) (fun e => by have := HLT.out _ e.symm; omega)).trans h60.out; simp [World.cell?, h6]); clear hown2 hb2 hg2 hat2)
          have HOx2 := HO2.out
          refine (replaceAll_calls xt _ (by omega)).mono ?_
          rintro e w3 ⟨rfl, hb⟩
          have HB3 := Aside0.mk (Below.trans HB2.out (hb.mono HB2.out.size))
          have HO3 := Aside0.mk (pw_own_below HOx2 hb)
          have hz3 := HB3.out.size
          have hes := escS_size xt
          have hl3 : (xs ++ [2]).length ≤ 8217 := by rw [List.length_append, List.length_singleton]; omega
          clear hb HOx2 HO2
          go_upto_region 16 with (at_builtin; refine print_append_str (w0 := w) w.heap.size rfl _ _ 45 9 5 rfl Tryd.underlying45 Tryd.underlying9 info5 v2 (xs ++ [2]) (escS xt) rfl rfl HO3.out HB3.out hz3 (by omega) ?_; intro v4 w4 hown4 hb4 _; have HO4 := Aside0.mk hown4; have HB4 := Aside0.mk hb4; clear hown4 hb4)
          obtain ⟨zs, hzs⟩ : ∃ zs, xs ++ [2] ++ bytesOf (escS xt) = zs := ⟨_, rfl⟩
          have hzl : zs.length ≤ 9300 := by rw [← hzs, List.length_append, bytesOf_length]; omega
          have HZS := Aside0.mk hzs
          rw [hzs] at HO4
          obtain ⟨A6, c6, rfl⟩ := own_slice HO4.out
          have hz4 : w.heap.size ≤ (w4.alloc (.cells #[.int .u8 0, .int .u8 1] 5)).heap.size := by have := HB4.out.size; rw [World.size_alloc]; omega
          have HZ4 := Aside0.mk hz4
          have HCM := Aside0.mk (C_marked w4 [0, 1] (by decide) (0, 0) _ rfl)
          clear hzs hz4
          go_wp2_with (at_builtin; refine print_append_row_of (w0 := w) (W := w4.alloc (.cells #[.int .u8 0, .int .u8 1] 5)) (Value.int .u8) 0 w.heap.size rfl _ _ 45 5 (.int .u8 0) 1 rfl Tryd.underlying45 info5 rfl (by decide) (fun _ => rfl) (.slice A6 zs.length c6) zs [0, 1] (some ⟨w4.heap.size, 0, none⟩) 2 2 rfl rfl (HO4.out.alloc _) (Kd.reads_of_C (d := 0) (h1 := fun _ => rfl) HCM.out) (HB4.out.alloc HB4.out.size _) HZ4.out (by omega) ?_; intro v8 w8 hown8 hb8 _ _; have HO8 := Aside0.mk hown8; have HB8 := Aside0.mk hb8; clear hown8 hb8)
          have HOE : Aside0 (w8.ownsRow w.heap.size 5 1 v8 ((l0.take (i + 1)).map partB).flatten.length (nums .u8 ((l0.take (i + 1)).map partB).flatten)) := ⟨by rw [HST.out]; unfold partB; rw [if_pos (show (true = true) from rfl)]; have := HO8.out; rw [← HZS.out] at this; simp only [List.append_assoc] at this ⊢; exact this⟩
          go_roundw
          case rel => exact ⟨i + 1, by go_num, by have := H2.out; omega, HOE, HB8⟩
          case measure => have := H2.out; simp [intOf] <;> omega
      · have d1 : decide ((i : Int) < (l0.length : Int)) = false := decide_eq_false (by omega)
        have d1' : decide (i < l0.length) = false := decide_eq_false h1
        obtain rfl : i = l0.length := by omega
        have ho := HO.out
        rw [List.take_length] at ho
        obtain ⟨xs, hxs⟩ : ∃ xs, (l0.map partB).flatten = xs := ⟨_, rfl⟩
        rw [hxs] at ho H1
        have hcv := own_string (P := Tryd.prog) Tryd.underlying45 Tryd.underlying5 Tryd.underlying9 ho
        obtain ⟨A4, c4, rfl⟩ := own_slice ho
        clear h1 hi ho HO
        go_wp2
        go_ret2
        exact ⟨by rw [← H1.out]; rfl, HB.out⟩
end Go.Proofs.YtdofoopnjmbmcaaDoor.HandF
