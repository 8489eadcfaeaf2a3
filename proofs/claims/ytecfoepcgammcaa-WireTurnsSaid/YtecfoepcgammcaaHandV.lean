/- The walk of the law WireTurns, by hand; and laws on bytes that a text was turned to. -/
import Derived.Test.YtecfoepcgammcaaPureWireOne
import Derived.Test.YtecfoepcgammcaaX11
namespace Go.Proofs.Ytecfoepcgammcaa.HandF
set_option linter.unusedVariables false
set_option linter.unusedSimpArgs false
open Go.RowKit Go.Proofs.Ytecfoepcgammcaa.X Go.Proofs.Ytecfoepcgammcaa.Blocks
open Go.Proofs.YtecfoepcgammcaaW.PrintWords Go.Proofs.YtecfoepcgammcaaW.PrintLast Go.Proofs.YtecfoepcgammcaaW.PrintMore
attribute [local go_sem] max2_int min2_int max_two min_two max_three min_three max_four min_four

theorem byte_of_wf {x : Int} (h : (Lit.int .u8 x).wf = true) : 0 ≤ x ∧ x ≤ 255 := by
  have := Math.bytes_of_wf (l := [x]) (fun y hy => by rw [List.mem_singleton.1 hy]; exact h) x (List.mem_singleton.2 rfl)
  exact this
/-- Both open alike. -/
theorem Math.open_both (s : ByteArray) (hs : s.size ≤ 140737488351232) (p most : Int) (hm : most ≤ 9223372036854775807) : ∃ r, wire_Open.f s p most = some r := by
  unfold wire_Open.f
  rw [if_pos hs]
  by_cases c : 0 ≤ p ∧ p < s.size
  · rw [if_pos c]
    obtain ⟨n, rfl⟩ := Int.eq_ofNat_of_zero_le c.1
    rw [Int.toNat_natCast]
    obtain ⟨h1, r, h2⟩ := Math.open_same s hs n (by omega) most hm
    exact ⟨r, by rw [h1]; exact h2⟩
  · rw [if_neg c]
    exact ⟨_, rfl⟩

/-- A byte is stored. -/
theorem set_C {W : World} {b n : Nat} {l : List Int} (h : (Kd.int .u8).C W (some ⟨b, 0, none⟩) n l) (i : Nat) (hi : i < n) (x : Int) :
    (Kd.int .u8).C (W.setCell ⟨b, i, none⟩ (.int .u8 x)) (some ⟨b, 0, none⟩) n (l.set i x) := by
  have hr := Kd.reads_of_C (d := (0 : Int)) h
  obtain ⟨h1, h2, h3⟩ := hr
  refine Kd.C_of_reads (d := (0 : Int)) (h1 := fun _ => rfl) ⟨by rw [List.length_set]; exact h1, h2, fun hn => ?_⟩
  obtain ⟨ad, e, hc⟩ := h3 hn
  cases e
  refine ⟨_, rfl, fun j hj => ?_⟩
  have hcj := hc j hj
  rw [show (⟨b, 0, none⟩ : Addr).add j = ⟨b, j, none⟩ from YtecfoepcgammcaaW.PrintWords.add_plain _ _] at hcj ⊢
  by_cases e : j = i
  · subst e
    rw [World.cell?_setCell_same (w := W) (a := ⟨b, j, none⟩) (v := .int .u8 x) hcj, List.getD_eq_getElem?_getD, List.getElem?_set_self (by omega)]
    rfl
  · rw [World.cell?_setCell_other (w := W) (a := ⟨b, i, none⟩) (b := ⟨b, j, none⟩) (v := .int .u8 x) (by intro h; cases h; exact e rfl), hcj, List.getD_eq_getElem?_getD, List.getD_eq_getElem?_getD, List.getElem?_set_ne (by omega)]

theorem bytes_free {W : World} {s : ByteArray} {cap b : Nat} (h : W.heap[b]? = some (.cells (bytesRow s cap) 5 ((bytesRow s cap).size, (bytesRow s cap).size + 1))) (i : Nat) (hi : i < s.size) : W.frozen? ⟨b, i, none⟩ = false := by
  unfold World.frozen?
  rw [h]
  have : s.size ≤ (bytesRow s cap).size := by
    unfold bytesRow
    rw [Array.size_append, Array.size_map]
    exact Nat.le_add_right _ _
  show (decide ((bytesRow s cap).size ≤ i) && decide (i < (bytesRow s cap).size + 1)) = false
  rw [decide_eq_false (show ¬ (bytesRow s cap).size ≤ i by omega)]
  rfl

/-- A record of which one byte is another one is not opened as the same. -/
theorem turned_open {kind : Int} {B : ByteArray} {S : ByteArray} {L : List Int} (hL : Math.sealOf kind B = L) (hS : strOfNums L = S) (hb : Math.Bytes L) (hs : S.size ≤ 140737488351232) {i : Nat} (hi : i < S.size) {c : Int} (hc : 0 ≤ c ∧ c ≤ 255) (hne : rd L (i : Int) ≠ c)
    {r1 r3 r4 : Int} {r2 : ByteArray} (h : wire_Open.f (strOfNums (L.set i c)) 0 (S.size : Int) = some (r1, r2, r3, r4)) (e1 : r4 = 0) (e2 : r1 = kind) (e3 : r2 = B) (e4 : r3 = (S.size : Int)) : False := by
  have hLs : L.length = S.size := by rw [← hS, strOfNums_size]
  have hsz : (strOfNums (L.set i c)).size = S.size := by rw [strOfNums_size, List.length_set, hLs]
  have hbs : Math.Bytes (L.set i c) := fun x hx => by
    rcases List.mem_or_eq_of_mem_set hx with hx | rfl
    · exact hb x hx
    · exact hc
  unfold wire_Open.f at h
  rw [if_pos (by omega), if_pos (by omega)] at h
  obtain ⟨h1, r, h2⟩ := Math.open_same (strOfNums (L.set i c)) (by omega) 0 (by omega) (S.size : Int) (by omega)
  have h0 : (0 : Int).toNat = 0 := rfl
  rw [h0] at h
  rw [show ((0 : Nat) : Int) = 0 from rfl, h] at h1
  obtain ⟨r', g1, g2, g3, g4, g5⟩ := Math.refopen_one (strOfNums (L.set i c)) (by omega) 0 (by omega) (S.size : Int) (by omega) h1.symm e1
  have : r' = (strOfNums (L.set i c)).size := by omega
  rw [this, e2, e3, hL] at g4
  have g6 : (strOfNums (L.set i c)).extract 0 (strOfNums (L.set i c)).size = strOfNums (L.set i c) := ByteArray.extract_zero_size
  rw [g6] at g4
  have g7 := Math.str_inj hb hbs g4
  apply hne
  rw [g7]
  unfold rd
  rw [Int.toNat_natCast, List.getD_eq_getElem?_getD, List.getElem?_set_self (by omega)]
  rfl

set_option maxRecDepth 100000 in
set_option maxHeartbeats 2000000 in
theorem turns_walk (a0 : Int) (a1 : ByteArray) (a2 a3 : Int) (w : World) (h0 : 0 ≤ a0 ∧ a0 ≤ 255) (h1 : a1.size ≤ 140737488351232) (h3 : 0 ≤ a3 ∧ a3 ≤ 255) :
    Calls Try.prog 8 #[.int .u8 a0, .string a1, .int .i64 a2, .int .u8 a3] w fun e w' => e = .returned (.bool true) ∧ Below w.heap.size w w' := by
  obtain ⟨m, hm, hm1, hm2⟩ : ∃ m : Nat, (if 10000 < (a1.size : Int) then 10000 else (a1.size : Int)) = (m : Int) ∧ m ≤ a1.size ∧ m ≤ 10000 := by
    by_cases c : 10000 < (a1.size : Int)
    · exact ⟨10000, if_pos c, by omega, Nat.le_refl _⟩
    · exact ⟨a1.size, if_neg c, Nat.le_refl _, by omega⟩
  obtain ⟨B, hB⟩ : ∃ B, a1.extract 0 m = B := ⟨_, rfl⟩
  have hBs : B.size ≤ 10000 := by rw [← hB, ByteArray.size_extract]; omega
  obtain ⟨L, hL⟩ : ∃ L, Math.sealOf a0 B = L := ⟨_, rfl⟩
  obtain ⟨S, hS⟩ : ∃ S, strOfNums L = S := ⟨_, rfl⟩
  have hbL : Math.Bytes L := by
    rw [← hL]
    exact (Math.Bytes.append (Math.Bytes.append (Math.Bytes.cons h0 (fun _ h => by cases h)) (Math.numB_bytes _)) (Math.bytesOf_bytes' _)).append (Math.sum_bytes _)
  have hLl : L.length ≤ 10020 := by
    rw [← hL]
    have := Math.bodyOf_length a0 B
    unfold Math.sealOf
    rw [List.length_append]
    have : (sumBytes (Go.bits .xor .u32 4294967295 (crcList 4294967295 (Math.bodyOf a0 B)))).length = 4 := rfl
    omega
  have hSs : S.size = L.length := by rw [← hS, strOfNums_size]
  have hseal := Math.seal_some a0 B (by omega)
  rw [hL, hS] at hseal
  have HSE := Aside0.mk hseal
  obtain ⟨k1, hk1⟩ := Math.shown_ev
  have HSH := Aside0.mk (hk1 k1 (Nat.le_refl _))
  dsimp only at HSH
  have HBB := Aside0.mk hB
  have HL := Aside0.mk hL
  have HS := Aside0.mk hS
  have HLb := Aside0.mk hbL
  have hbS : bytesOf S = L := by rw [← hS]; exact Math.bytes_str hbL
  have HbS := Aside0.mk hbS
  have hSn : S.size ≤ 10020 := by omega
  have HSs := Aside0.mk hSs
  have m0 : (0 : Int) ≤ (m : Int) := by omega
  have m1 : (m : Int) ≤ (a1.size : Int) := by omega
  have HH0 := Aside0.mk h0
  have HH3 := Aside0.mk h3
  obtain ⟨cf, hcf⟩ : ∃ cf : ByteArray → World → Nat, ∀ s W, cf s W = grownCap W s.size 0 5 := ⟨_, fun _ _ => rfl⟩
  obtain ⟨G, hG⟩ : ∃ G : ByteArray → World → Obj, ∀ s W, G s W = .cells (bytesRow s (cf s W)) 5 ((bytesRow s (cf s W)).size, (bytesRow s (cf s W)).size + 1) := ⟨_, fun _ _ => rfl⟩
  have kc : ∀ (s : ByteArray) (W : World), (convert 9 22 (.string s)).run Try.prog W = .ok (.slice (some ⟨W.heap.size, 0, none⟩) s.size (cf s W)) (W.drew.alloc (G s W)) := fun s W => by
    have := Go.run_bytes_of_string (P := Try.prog) W 9 22 5 s Try.underlying9 Try.underlying22 Try.underlying5
    rw [← hcf, ← hG] at this
    exact this
  have HG := Aside0.mk hG
  have HCF := Aside0.mk hcf
  clear hG hcf hk1 hseal hL hS hbL hLl hbS hSs h0 h3
  by_cases c1 : a2 < 0
  · have d1 : decide (a2 < 0) = true := decide_eq_true c1
    go_enter Try.func8, Try.ntmps8
    go_wp2_with (first | (go_at_call 11; (with_reducible refine (pannierlaw02_shown.calls k1 true _ HSH.out).mono ?_); rintro e w1 ⟨rfl, hb⟩; have HB1 := Aside0.mk hb; clear hb) | (go_at_call 24; (with_reducible refine (wire_Seal.calls a0 _ S _ HSE.out).mono ?_); rintro e w2 ⟨rfl, hb⟩; have HB2 := Aside0.mk (below_step HB1.out hb); clear hb))
    go_ret
    exact ⟨rfl, ((below_step HB2.out ((Below.refl _ _).alloc (Nat.le_refl _) _)).drew)⟩
  · have d1 : decide (a2 < 0) = false := decide_eq_false c1
    by_cases c2 : (S.size : Int) ≤ a2
    · have d2 : decide ((S.size : Int) ≤ a2) = true := decide_eq_true c2
      go_enter Try.func8, Try.ntmps8
      go_wp2_with (first | (go_at_call 11; (with_reducible refine (pannierlaw02_shown.calls k1 true _ HSH.out).mono ?_); rintro e w1 ⟨rfl, hb⟩; have HB1 := Aside0.mk hb; clear hb) | (go_at_call 24; (with_reducible refine (wire_Seal.calls a0 _ S _ HSE.out).mono ?_); rintro e w2 ⟨rfl, hb⟩; have HB2 := Aside0.mk (below_step HB1.out hb); clear hb))
      go_ret
      exact ⟨rfl, ((below_step HB2.out ((Below.refl _ _).alloc (Nat.le_refl _) _)).drew)⟩
    · obtain ⟨i, rfl⟩ := Int.eq_ofNat_of_zero_le (show 0 ≤ a2 by omega)
      have hi : i < S.size := by omega
      have d2 : decide ((S.size : Int) ≤ (i : Int)) = false := decide_eq_false c2
      have d3 : decide (S.size ≤ i) = false := decide_eq_false (by omega)
      have i0 : (0 : Int) ≤ (i : Int) := by omega
      have i1 : (i : Int) < (S.size : Int) := by omega
      have madeC : Aside0 (∀ W : World, (Kd.int .u8).C (W.alloc (G S W)) (some ⟨W.heap.size, 0, none⟩) S.size L) := ⟨fun W => by rw [HG.out, ← HbS.out]; exact C_bytes W S _ (by omega) _⟩
      have celled : ∀ W : World, (W.alloc (G S W)).cell? ⟨W.heap.size, i, none⟩ = some (.int .u8 (rd L (i : Int))) := fun W => by
        obtain ⟨ad, e, hc⟩ := Kd.at_int (madeC.out W) (i : Int) i0 i1
        cases e
        rw [Int.toNat_natCast, show (⟨W.heap.size, 0, none⟩ : Addr).add i = ⟨W.heap.size, i, none⟩ from YtecfoepcgammcaaW.PrintWords.add_plain _ _] at hc
        exact hc
      have freed : ∀ W : World, (W.alloc (G S W)).frozen? ⟨W.heap.size, i, none⟩ = false := fun W => by
        refine bytes_free (s := S) (cap := cf S W) ?_ i hi
        have := alloc_new W (G S W)
        rw [HG.out] at this ⊢
        exact this
      clear c1 c2
      by_cases c3 : rd L (i : Int) = a3
      · have d4 : (rd L (i : Int) == a3) = true := beq_iff_eq.2 c3
        clear c3
        go_enter Try.func8, Try.ntmps8
        go_wp2_with (first | (go_at_call 11; (with_reducible refine (pannierlaw02_shown.calls k1 true _ HSH.out).mono ?_); rintro e w1 ⟨rfl, hb⟩; have HB1 := Aside0.mk hb; clear hb) | (go_at_call 24; (with_reducible refine (wire_Seal.calls a0 _ S _ HSE.out).mono ?_); rintro e w2 ⟨rfl, hb⟩; have HB2 := Aside0.mk (below_step HB1.out hb); clear hb; have hcell := celled w2; have hfree := freed w2))
        go_ret
        exact ⟨rfl, ((below_step HB2.out ((Below.refl _ _).alloc (Nat.le_refl _) _)).drew)⟩
      · have d4 : (rd L (i : Int) == a3) = false := beq_eq_false_iff_ne.2 c3
        have HC3 := Aside0.mk c3
        clear c3
        obtain ⟨Z, hZ⟩ : ∃ Z, strOfNums (L.set i a3) = Z := ⟨_, rfl⟩
        have setcv : Aside0 (∀ W : World, (convert 22 9 (.slice (some ⟨W.heap.size, 0, none⟩) S.size (cf S W))).run Try.prog ((W.alloc (G S W)).setCell ⟨W.heap.size, i, none⟩ (.int .u8 a3)).drew = .ok (.string Z) ((W.alloc (G S W)).setCell ⟨W.heap.size, i, none⟩ (.int .u8 a3)).drew) := ⟨fun W => by
          rw [← hZ]
          exact Kd.C_string Try.underlying22 Try.underlying5 Try.underlying9 (Kd.C_drew (set_C (madeC.out W) i hi a3))⟩
        have hZs : Z.size = S.size := by rw [← hZ, strOfNums_size, List.length_set, ← HSs.out]
        obtain ⟨⟨r1, r2, r3, r4⟩, hO⟩ := Math.open_both Z (by omega) 0 (S.size : Int) (by omega)
        have HO := Aside0.mk hO
        have hno := turned_open HL.out HS.out HLb.out (by omega) hi HH3.out HC3.out (by rw [hZ]; exact hO)
        have Hno := Aside0.mk hno
        clear hno hO hZ hZs
        by_cases e1 : r4 = 0
        · have f1 : (r4 != 0) = false := bne_eq_false_iff_eq.2 e1
          have f1' : (r4 == 0) = true := beq_iff_eq.2 e1
          by_cases e2 : r1 = a0
          · have f2 : (r1 != a0) = false := bne_eq_false_iff_eq.2 e2
            have f2' : (r1 == a0) = true := beq_iff_eq.2 e2
            by_cases e3 : r2 = B
            · have f3 : (r2.toList == B.toList) = true := by rw [e3]; exact beq_self_eq_true _
              have e4 : ¬ r3 = (S.size : Int) := fun e4 => Hno.out e1 e2 e3 e4
              have f4 : (r3 != (S.size : Int)) = true := bne_iff_ne.2 e4
              have f4' : (r3 == (S.size : Int)) = false := beq_eq_false_iff_ne.2 e4
              clear e1 e2 e3 e4
              go_enter Try.func8, Try.ntmps8
              go_wp2_with (first | (go_at_call 11; (with_reducible refine (pannierlaw02_shown.calls k1 true _ HSH.out).mono ?_); rintro e w1 ⟨rfl, hb⟩; have HB1 := Aside0.mk hb; clear hb) | (go_at_call 24; (with_reducible refine (wire_Seal.calls a0 _ S _ HSE.out).mono ?_); rintro e w2 ⟨rfl, hb⟩; have HB2 := Aside0.mk (below_step HB1.out hb); clear hb; have hcell := celled w2; have hfree := freed w2; have hcv := setcv.out w2) | (go_at_call 22; (with_reducible refine (wire_Open.calls Z 0 (S.size : Int) r1 r2 r3 r4 _ HO.out).mono ?_); rintro e w3 ⟨rfl, hb⟩; have HB3 := Aside0.mk (below_step ((below_step HB2.out ((Below.refl _ _).alloc (Nat.le_refl _) _)).setCell (HB2.out.size) _).drew hb); clear hb))
              go_ret
              exact ⟨rfl, HB3.out⟩
            · have f3 : (r2.toList == B.toList) = false := beq_eq_false_iff_ne.2 (fun h => e3 (by rw [Lib.toList_data, Lib.toList_data] at h; exact ByteArray.ext (Array.toList_inj.1 h)))
              clear e1 e2 e3
              go_enter Try.func8, Try.ntmps8
              go_wp2_with (first | (go_at_call 11; (with_reducible refine (pannierlaw02_shown.calls k1 true _ HSH.out).mono ?_); rintro e w1 ⟨rfl, hb⟩; have HB1 := Aside0.mk hb; clear hb) | (go_at_call 24; (with_reducible refine (wire_Seal.calls a0 _ S _ HSE.out).mono ?_); rintro e w2 ⟨rfl, hb⟩; have HB2 := Aside0.mk (below_step HB1.out hb); clear hb; have hcell := celled w2; have hfree := freed w2; have hcv := setcv.out w2) | (go_at_call 22; (with_reducible refine (wire_Open.calls Z 0 (S.size : Int) r1 r2 r3 r4 _ HO.out).mono ?_); rintro e w3 ⟨rfl, hb⟩; have HB3 := Aside0.mk (below_step ((below_step HB2.out ((Below.refl _ _).alloc (Nat.le_refl _) _)).setCell (HB2.out.size) _).drew hb); clear hb))
              go_ret
              exact ⟨rfl, HB3.out⟩
          · have f2 : (r1 != a0) = true := bne_iff_ne.2 e2
            have f2' : (r1 == a0) = false := beq_eq_false_iff_ne.2 e2
            clear e1 e2
            go_enter Try.func8, Try.ntmps8
            go_wp2_with (first | (go_at_call 11; (with_reducible refine (pannierlaw02_shown.calls k1 true _ HSH.out).mono ?_); rintro e w1 ⟨rfl, hb⟩; have HB1 := Aside0.mk hb; clear hb) | (go_at_call 24; (with_reducible refine (wire_Seal.calls a0 _ S _ HSE.out).mono ?_); rintro e w2 ⟨rfl, hb⟩; have HB2 := Aside0.mk (below_step HB1.out hb); clear hb; have hcell := celled w2; have hfree := freed w2; have hcv := setcv.out w2) | (go_at_call 22; (with_reducible refine (wire_Open.calls Z 0 (S.size : Int) r1 r2 r3 r4 _ HO.out).mono ?_); rintro e w3 ⟨rfl, hb⟩; have HB3 := Aside0.mk (below_step ((below_step HB2.out ((Below.refl _ _).alloc (Nat.le_refl _) _)).setCell (HB2.out.size) _).drew hb); clear hb))
            go_ret
            exact ⟨rfl, HB3.out⟩
        · have f1 : (r4 != 0) = true := bne_iff_ne.2 e1
          have f1' : (r4 == 0) = false := beq_eq_false_iff_ne.2 e1
          clear e1
          go_enter Try.func8, Try.ntmps8
          go_wp2_with (first | (go_at_call 11; (with_reducible refine (pannierlaw02_shown.calls k1 true _ HSH.out).mono ?_); rintro e w1 ⟨rfl, hb⟩; have HB1 := Aside0.mk hb; clear hb) | (go_at_call 24; (with_reducible refine (wire_Seal.calls a0 _ S _ HSE.out).mono ?_); rintro e w2 ⟨rfl, hb⟩; have HB2 := Aside0.mk (below_step HB1.out hb); clear hb; have hcell := celled w2; have hfree := freed w2; have hcv := setcv.out w2) | (go_at_call 22; (with_reducible refine (wire_Open.calls Z 0 (S.size : Int) r1 r2 r3 r4 _ HO.out).mono ?_); rintro e w3 ⟨rfl, hb⟩; have HB3 := Aside0.mk (below_step ((below_step HB2.out ((Below.refl _ _).alloc (Nat.le_refl _) _)).setCell (HB2.out.size) _).drew hb); clear hb))
          go_ret
          exact ⟨rfl, HB3.out⟩
end Go.Proofs.Ytecfoepcgammcaa.HandF
