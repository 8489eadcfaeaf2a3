/- The walk of the law WireBack, by hand, at every row. -/
import Derived.Test.YtecfoepcgammcaaLaidMath
import Derived.Test.YtecfoepcgammcaaX11
import Derived.Test.YtecfoepcgammcaaWide
import Derived.Deep.QuietTactic
import Derived.BigQuiet
namespace Go.Proofs.Ytecfoepcgammcaa.HandF
set_option linter.unusedVariables false
set_option linter.unusedSimpArgs false
open Go.RowKit Go.Proofs.Ytecfoepcgammcaa.X Go.Proofs.Ytecfoepcgammcaa.Blocks
open Go.Proofs.YtecfoepcgammcaaW.PrintWords Go.Proofs.YtecfoepcgammcaaW.PrintLast Go.Proofs.YtecfoepcgammcaaW.PrintMore
attribute [local go_sem] max2_int min2_int max_two min_two max_three min_three max_four min_four

theorem byte_wf {x : Int} (h : (Lit.int .u8 x).wf = true) : 0 ≤ x ∧ x ≤ 255 := by
  have := Math.bytes_of_wf (l := [x]) (fun y hy => by rw [List.mem_singleton.1 hy]; exact h) x (List.mem_singleton.2 rfl)
  exact this
set_option maxRecDepth 100000 in
set_option maxHeartbeats 4000000 in
/-- wire.Text behind a row that is little shorter than 2^47. -/
theorem Text20 (A : Option Addr) (c : Nat) (l : List Int) (s : ByteArray) (w : World) (hC : Kd.C (Kd.int .u8) w A l.length l) (hc : l.length ≤ c) (hl : l.length + 9 < 140737488355328) (hs : s.size ≤ 10000) :
    Calls Try.prog 20 #[.slice A l.length c, .string s] w fun e w' => ∃ v : Value, e = .returned v ∧ Kd.R (Kd.int .u8) 5 w' w.heap.size (fun _ => True) v (l ++ Math.numB s.size ++ bytesOf s) ∧ Below w.heap.size w w' := by
  obtain ⟨k1, hk1⟩ := Math.number_some (l := l) (n := s.size) (by omega) hl
  have HNU := Aside0.mk (hk1 k1 (Nat.le_refl _))
  dsimp only at HNU
  have hw : IntKind.u64.wrap (s.size : Int) = (s.size : Int) := by rw [IntKind.wrap_u64]; omega
  obtain ⟨X, hX⟩ : ∃ X, l ++ Math.numB s.size = X := ⟨_, rfl⟩
  have hXl : X.length ≤ 140737488355328 := by
    have := Math.numB_len s.size
    rw [← hX, List.length_append]
    omega
  rw [hX] at HNU ⊢
  have HC := Aside0.mk hC
  have HLE := Aside0.mk hc
  clear hk1 hX hC hc
  go_enter Try.func20, Try.ntmps20
  go_wp2_with fail
  refine (wire_Number.calls k1 A c l (s.size : Int) X _ HC.out HLE.out HNU.out).mono ?_
  rintro e w2 ⟨v1, rfl, ho, hb⟩
  have HO := Aside0.mk (Kd.own_of_R ho)
  have HB := Aside0.mk hb
  obtain ⟨A1, c1, rfl⟩ := Kd.R_slice ho
  clear ho hb
  go_wp2_with (at_builtin; refine Wide.append_str (w0 := w) w.heap.size rfl _ _ 22 9 5 rfl Try.underlying22 Try.underlying9 info5 (.slice A1 X.length c1) X s rfl rfl HO.out HB.out HB.out.size (by omega) (by omega) ?_; intro v5 w5 hown5 hb5; have HO5 := Aside0.mk hown5; have HB5 := Aside0.mk hb5; clear hown5 hb5)
  go_ret
  exact ⟨v5, rfl, Kd.R_of_own (h1 := fun _ => rfl) (ok := fun _ => True) HO5.out (fun _ _ => trivial), HB5.out⟩

set_option maxRecDepth 100000 in
set_option maxHeartbeats 4000000 in
theorem back_walk (a0 : Option Addr) (len0 cap0 : Nat) (z0 : List Int) (a1 : Int) (a2 : ByteArray) (a3 : Int) (w : World) (w0 : (a0 = none ∧ len0 = 0 ∧ cap0 = 0 ∧ z0 = []) ∨ ∃ x, a0 = some x ∧ len0 ≤ cap0 ∧ cap0 ≤ maxLen ∧ z0.length = cap0 ∧ (∀ i, i < z0.length → w.cell? (x.add i) = some (.int .u8 (z0.getD i 0))) ∧ ∀ n ∈ z0, (Lit.int .u8 n).wf = true) (y0 : len0 * 1 ≤ 140737488351232) (y2 : a2.size ≤ 140737488351232)
    (h1 : 0 ≤ a1 ∧ a1 < 18446744073709551616) (h3 : 0 ≤ a3 ∧ a3 ≤ 255) :
    Calls Try.prog 9 #[.slice a0 len0 cap0, .int .u64 a1, .string a2, .int .u8 a3] w fun e w' => e = .returned (.bool true) ∧ Below w.heap.size w w' := by
  obtain ⟨l, rfl, hr0, hm0, hw0, hc0⟩ := ReadsInt.ofRowC w0
  have hC := Kd.C_of_reads (d := (0 : Int)) (h1 := fun _ => rfl) hr0
  have hbl := Math.bytes_of_wf hw0
  clear w0 hw0 hm0 hr0
  obtain ⟨n, rfl⟩ := Int.eq_ofNat_of_zero_le h1.1
  have hn : n < 18446744073709551616 := by omega
  clear h1
  obtain ⟨m, hm, hm1, hm2⟩ : ∃ m : Nat, (if 10000 < (a2.size : Int) then 10000 else (a2.size : Int)) = (m : Int) ∧ m ≤ a2.size ∧ m ≤ 10000 := by
    by_cases c : 10000 < (a2.size : Int)
    · exact ⟨10000, if_pos c, by omega, Nat.le_refl _⟩
    · exact ⟨a2.size, if_neg c, Nat.le_refl _, by omega⟩
  obtain ⟨B, hB⟩ : ∃ B, a2.extract 0 m = B := ⟨_, rfl⟩
  have hBs : B.size ≤ 10000 := by rw [← hB, ByteArray.size_extract]; omega
  have hbB := Math.bytesOf_bytes' B
  have hbBl := bytesOf_length B
  obtain ⟨L, hL⟩ : ∃ L, Math.sealOf a3 B = L := ⟨_, rfl⟩
  obtain ⟨S, hS⟩ : ∃ S, strOfNums L = S := ⟨_, rfl⟩
  have hbL : Math.Bytes L := by
    rw [← hL]
    exact (Math.Bytes.append (Math.Bytes.append (Math.Bytes.cons h3 (fun _ h => by cases h)) (Math.numB_bytes _)) hbB).append (Math.sum_bytes _)
  have hLl : L.length ≤ 10020 := by
    rw [← hL]
    have := Math.bodyOf_length a3 B
    unfold Math.sealOf
    rw [List.length_append]
    have : (sumBytes (Go.bits .xor .u32 4294967295 (crcList 4294967295 (Math.bodyOf a3 B)))).length = 4 := rfl
    omega
  have hSs : S.size = L.length := by rw [← hS, strOfNums_size]
  have hbS : bytesOf S = L := by rw [← hS]; exact Math.bytes_str hbL
  have hseal := Math.seal_some a3 B (by omega)
  rw [hL, hS] at hseal
  have hn9 := Math.numB_len n
  have hB9 := Math.numB_len B.size
  obtain ⟨k1, hk1⟩ := Math.shown_ev
  obtain ⟨k2, hk2⟩ := Math.number_some (l := l) (n := n) hn (by omega)
  obtain ⟨X1, hX1⟩ : ∃ X1, l ++ Math.numB n = X1 := ⟨_, rfl⟩
  have hX1l : X1.length ≤ 140737488351241 := by rw [← hX1, List.length_append]; omega
  have hX1b : Math.Bytes X1 := by rw [← hX1]; exact hbl.append (Math.numB_bytes _)
  rw [hX1] at hk2
  obtain ⟨X2, hX2⟩ : ∃ X2, X1 ++ Math.numB B.size ++ bytesOf B = X2 := ⟨_, rfl⟩
  have hX2l : X2.length ≤ 140737488361250 := by rw [← hX2, List.length_append, List.length_append]; omega
  have hX2b : Math.Bytes X2 := by rw [← hX2]; exact (hX1b.append (Math.numB_bytes _)).append hbB
  obtain ⟨X3, hX3⟩ : ∃ X3, X2 ++ L = X3 := ⟨_, rfl⟩
  have hX3l : X3.length ≤ 140737488371270 := by rw [← hX3, List.length_append]; omega
  have hX3b : Math.Bytes X3 := by rw [← hX3]; exact hX2b.append hbL
  obtain ⟨k4, hk4⟩ := Math.take_ev (l := X3) hX3b (by omega) (l.length : Int)
  have hX3a : X3 = l ++ Math.numB n ++ (Math.numB B.size ++ bytesOf B ++ L) := by rw [← hX3, ← hX2, ← hX1]; simp only [List.append_assoc]
  have t4 : Math.takeNum X3 (l.length : Int) = ((n : Int), (X1.length : Int), 0) := by
    unfold Math.takeNum
    rw [if_pos (by rw [hX3a]; have := Math.numB_size n; simp only [List.length_append]; omega), Int.toNat_natCast, hX3a, Math.numAt_pre hbl (((Math.numB_bytes _).append hbB).append hbL) hn]
    rw [← hX1, List.length_append, Math.numB_size]
    rfl
  rw [t4] at hk4
  obtain ⟨r5, hr5, k5, hk5⟩ := Math.text_ev (l := X3) hX3b (by omega) (X1.length : Int) (B.size : Int)
  have t5 : r5 = (B, (X2.length : Int), 0) := by
    have hX3c : X3 = X1 ++ Math.numB B.size ++ bytesOf B ++ L := by rw [← hX3, ← hX2]
    rw [Math.txt_is hX3b (by omega) (by rw [hX3c]; have := Math.numB_size B.size; simp only [List.length_append]; omega) (by omega), hX3c, Math.textAt_pre hX1b hbL (by omega) (Int.le_refl _)] at hr5
    rw [← Option.some.inj hr5, ← hX2]
    unfold Math.textRes
    dsimp only
    congr 2
    have := Math.numB_size B.size
    simp only [List.length_append]
    omega
  rw [t5] at hk5
  have t6 := Math.open_pre (a := X2) (kind := a3) (s := B) hX2b h3 (by rw [hL, hX3]; omega) (by omega)
  rw [hL, hX3] at t6
  have htk : X3.take l.length = l := by rw [hX3a, List.append_assoc]; exact List.take_left
  have hll : l.length ≤ X3.length := by rw [hX3a]; simp only [List.length_append]; omega
  have HSH := Aside0.mk (hk1 k1 (Nat.le_refl _))
  have HNU := Aside0.mk (hk2 k2 (Nat.le_refl _))
  have HX2 := Aside0.mk hX2
  have HTN := Aside0.mk (hk4 k4 (Nat.le_refl _))
  have HTT := Aside0.mk (hk5 k5 (Nat.le_refl _))
  have HOP := Aside0.mk t6
  have HSE := Aside0.mk hseal
  dsimp only at HSH HNU HTN HTT
  have HC := Aside0.mk hC
  have HC0 := Aside0.mk hc0
  have HB := Aside0.mk hB
  have HX3 := Aside0.mk hX3
  have HbS := Aside0.mk hbS
  have HTK := Aside0.mk htk
  have m0 : (0 : Int) ≤ (m : Int) := by omega
  have m1 : (m : Int) ≤ (a2.size : Int) := by omega
  have l0 : (0 : Int) ≤ (l.length : Int) := by omega
  have l1 : (l.length : Int) ≤ (X3.length : Int) := by omega
  have hSz : S.size ≤ 10020 := by omega
  clear hk1 hk2 hk4 hk5 t4 t5 hr5 t6 hseal hC hc0 hX1 hX2 hX3 hX3a htk hL hS hbL hbS hSs hbB hbBl hbl hX1b hX2b hX3b hn9 hB9 hLl h3
  go_enter Try.func9, Try.ntmps9
  go_wp2_with fail
  refine (pannierlaw02_shown.calls k1 true _ HSH.out).mono ?_
  rintro e w1 ⟨rfl, hb⟩
  have HB1 := Aside0.mk hb
  clear hb
  go_wp2_with fail
  refine (wire_Number.calls k2 a0 cap0 l (n : Int) X1 _ (Kd.C_below HC.out HB1.out) HC0.out HNU.out).mono ?_
  rintro e w2 ⟨v1, rfl, ho, hb⟩
  have HB2 := Aside0.mk (below_step HB1.out hb)
  obtain ⟨A1, c1, rfl, hle, hC1⟩ := Kd.R_reads ho
  have HLE := Aside0.mk hle
  have HC1 := Aside0.mk hC1
  clear hb ho hle hC1
  go_wp2_with fail
  refine (Text20 A1 c1 X1 B _ HC1.out HLE.out (by omega) (by omega)).mono ?_
  rintro e w3 ⟨v2, rfl, ho, hb⟩
  rw [HX2.out] at ho
  have HB3 := Aside0.mk (below_step HB2.out hb)
  have HO3 := Aside0.mk (Kd.own_of_R ho)
  obtain ⟨A2, c2, rfl⟩ := Kd.R_slice ho
  clear hb ho HC1 HLE
  go_wp2_with fail
  refine (wire_Seal.calls a3 B S _ HSE.out).mono ?_
  rintro e w4 ⟨rfl, hb⟩
  have HB4 := Aside0.mk (below_step HB3.out hb)
  have HO4 := Aside0.mk (pw_own_below (own_weaken HO3.out HB2.out.size) hb)
  clear hb HO3
  go_wp2_with (at_builtin; refine Wide.append_str (w0 := w) w.heap.size rfl _ _ 22 9 5 rfl Try.underlying22 Try.underlying9 info5 (.slice A2 X2.length c2) X2 S rfl rfl HO4.out HB4.out HB4.out.size (by omega) (by omega) ?_; intro v5 w5 hown5 hb5; have HO5 := Aside0.mk hown5; have HB5 := Aside0.mk hb5; clear hown5 hb5)
  have ho5 := HO5.out
  rw [HbS.out, HX3.out] at ho5
  obtain ⟨A5, c5, rfl, hle, hC5⟩ := Kd.R_reads (Kd.R_of_own (h1 := fun _ => rfl) (ok := fun _ => True) ho5 (fun _ _ => trivial))
  have HLE := Aside0.mk hle
  have HC5 := Aside0.mk hC5
  clear ho5 HO5 HO4 hle hC5
  refine (wire_TakeNumber.calls k4 A5 c5 X3 (l.length : Int) (n : Int) (X1.length : Int) 0 _ HC5.out HLE.out HTN.out).mono ?_
  rintro e w6 ⟨rfl, hb⟩
  have HB6 := Aside0.mk (below_step HB5.out hb)
  have HC6 := Aside0.mk (Kd.C_below HC5.out hb)
  clear hb HC5
  go_wp2_with fail
  refine (wire_TakeText.calls k5 A5 c5 X3 (X1.length : Int) (B.size : Int) B (X2.length : Int) 0 _ HC6.out HLE.out HTT.out).mono ?_
  rintro e w7 ⟨rfl, hb⟩
  have HB7 := Aside0.mk (below_step HB6.out hb)
  have HC7 := Aside0.mk (Kd.C_below HC6.out hb)
  have hcv7 := Kd.C_string (P := Try.prog) (A := A5) (c := c5) Try.underlying22 Try.underlying5 Try.underlying9 HC7.out
  clear hb HC6
  go_wp2_with fail
  refine (wire_Open.calls (strOfNums X3) (X2.length : Int) (B.size : Int) a3 B (X3.length : Int) 0 _ HOP.out).mono ?_
  rintro e w8 ⟨rfl, hb⟩
  have HB8 := Aside0.mk (below_step HB7.out hb)
  have HC8 := Aside0.mk (Kd.C_below HC7.out hb)
  clear hb HC7 hcv7
  obtain ⟨i0, hi0, _, hsz0, _⟩ := info_parts info5
  obtain ⟨hcut, hA8, hC8⟩ := print_take_of (P := Try.prog) (Value.int .u8) 0 22 5 .i64 Try.underlying22 hi0 hsz0 A5 c5 X3 (l.length : Int) l0 l1 HLE.out
  have hR8 := Kd.C_of_reads (h1 := fun _ => rfl) (hA8 _ (Kd.reads_of_C HC8.out))
  rw [Int.toNat_natCast, HTK.out] at hcut hR8
  have HR8 := Aside0.mk hR8
  have hcv1 : ∀ n_ : Nat, (convert 22 9 (.slice A5 l.length c5)).run Try.prog (w8.drewN n_) = .ok (.string (strOfNums l)) (w8.drewN n_) := fun n_ => Kd.C_string (P := Try.prog) Try.underlying22 Try.underlying5 Try.underlying9 (Kd.C_drewN HR8.out _)
  have hcv2 : ∀ n_ : Nat, (convert 22 9 (.slice a0 l.length cap0)).run Try.prog (w8.drewN n_) = .ok (.string (strOfNums l)) (w8.drewN n_) := fun n_ => Kd.C_string (P := Try.prog) Try.underlying22 Try.underlying5 Try.underlying9 (Kd.C_drewN (Kd.C_below HC.out HB8.out) _)
  clear hA8 hC8 hR8 hi0 hsz0 HC8
  go_wp2_with fail
  go_quiet (fail)
  all_goals go_wp2
  all_goals go_ret
  all_goals exact ⟨rfl, by first | exact pw_below_drewN HB8.out _ | (repeat (first | exact HB8.out | apply pw_below_drewN | apply below_drew1))⟩
end Go.Proofs.Ytecfoepcgammcaa.HandF
