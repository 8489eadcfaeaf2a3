/- A contract by hand: the reference's Open. -/
import Derived.Deep.RegionHeld3
import Derived.Deep.DrawnRows
import Derived.Test.YtecfoepcgammcaaSealMath
import Derived.Test.YtecfoepcgammcaaHandO
namespace Go.Proofs.Ytecfoepcgammcaa.HandF
set_option linter.unusedVariables false
set_option linter.unusedSimpArgs false
open Go.RowKit Go.Proofs.Ytecfoepcgammcaa.X Go.Proofs.Ytecfoepcgammcaa.Blocks
open Go.Proofs.YtecfoepcgammcaaW.PrintWords Go.Proofs.YtecfoepcgammcaaW.PrintLast Go.Proofs.YtecfoepcgammcaaW.PrintMore

def pannierref02_Open.f (a0 : ByteArray) (a1 a2 : Int) : Option (Int × ByteArray × Int × Int) :=
  if a0.size ≤ 140737488351232 then
    (if 0 ≤ a1 ∧ a1 < a0.size then Math.refOpenOf a0 a1.toNat a2 else some (0, ⟨#[]⟩, 0, 20))
  else none

set_option maxRecDepth 100000 in
set_option maxHeartbeats 2000000 in
theorem pannierref02_Open.calls (a0 : ByteArray) (a1 a2 : Int) (r1 : Int) (r2 : ByteArray) (r3 r4 : Int) (w : World) (h : pannierref02_Open.f a0 a1 a2 = some (r1, r2, r3, r4)) :
    Calls Try.prog 23 #[.string a0, .int .i64 a1, .int .i64 a2] w fun e w' => e = .returned (.tuple #[.int .u8 r1, .string r2, .int .i64 r3, .int .i64 r4]) ∧ Below w.heap.size w w' := by
  unfold pannierref02_Open.f at h
  by_cases hs : a0.size ≤ 140737488351232
  · rw [if_pos hs] at h
    by_cases c1 : 0 ≤ a1 ∧ a1 < a0.size
    · rw [if_pos c1] at h
      obtain ⟨p, rfl⟩ := Int.eq_ofNat_of_zero_le c1.1
      rw [Int.toNat_natCast] at h
      have hp : p < a0.size := by omega
      clear c1
      unfold Math.refOpenOf at h
      obtain ⟨s, hsx⟩ : ∃ s, a0.extract (p + 1) a0.size = s := ⟨_, rfl⟩
      have hss : s.size = a0.size - (p + 1) := by rw [← hsx]; simp [ByteArray.size_extract]
      rw [hsx] at h
      have hbl : (bytesOf s).length = s.size := bytesOf_length _
      obtain ⟨t, ht, k, hk⟩ := Math.reftext_ev (Math.bytesOf_bytes' s) (by omega) 0 a2
      have HT := Aside0.mk (hk k (Nat.le_refl _))
      dsimp only at HT
      rw [ht, Option.bind_some] at h
      have H := Aside0.mk h
      have HTX := Aside0.mk ht
      clear h hk ht
      have d1 : decide ((p : Int) < 0) = false := decide_eq_false (by omega)
      have d2 : decide (a0.size ≤ p) = false := decide_eq_false (by omega)
      have d3 : decide ((a0.size : Int) ≤ (p : Int)) = false := decide_eq_false (by omega)
      have q0 : (0 : Int) ≤ (p : Int) := by omega
      have q1 : (p : Int) + 1 ≤ (a0.size : Int) := by omega
      have q2 : (p : Int) < (a0.size : Int) := by omega
      have HSX := Aside0.mk hsx
      have HSS := Aside0.mk hss
      obtain ⟨cf, hcf⟩ : ∃ cf : ByteArray → World → Nat, ∀ s W, cf s W = grownCap W s.size 0 5 := ⟨_, fun _ _ => rfl⟩
      obtain ⟨G, hG⟩ : ∃ G : ByteArray → World → Obj, ∀ s W, G s W = .cells (bytesRow s (cf s W)) 5 ((bytesRow s (cf s W)).size, (bytesRow s (cf s W)).size + 1) := ⟨_, fun _ _ => rfl⟩
      have kc : ∀ (s : ByteArray) (W : World), (convert 9 22 (.string s)).run Try.prog W = .ok (.slice (some ⟨W.heap.size, 0, none⟩) s.size (cf s W)) (W.drew.alloc (G s W)) := fun s W => by
        have := Go.run_bytes_of_string (P := Try.prog) W 9 22 5 s Try.underlying9 Try.underlying22 Try.underlying5
        rw [← hcf, ← hG] at this
        exact this
      have HG := Aside0.mk hG
      have HCF := Aside0.mk hcf
      clear hG hcf
      go_enter Try.func23, Try.ntmps23
      go_wp2_with fail
      have hCB : (Kd.int .u8).C (w.alloc (G s w)).drew (some ⟨w.heap.size, 0, none⟩) s.size (bytesOf s) := by rw [HG.out]; exact Kd.C_drew (C_bytes w s _ (by omega) _)
      have hcap : s.size ≤ cf s w := by rw [HCF.out]; exact grownCap_ge _ _ _ _
      obtain ⟨t1, t2, t3⟩ := t
      have hTT := pannierref02_TakeText.calls k (some ⟨w.heap.size, 0, none⟩) (cf s w) (bytesOf s) 0 a2 t1 t2 t3 (w.alloc (G s w)).drew (by rw [hbl]; exact hCB) (by rw [hbl]; exact hcap) HT.out
      rw [hbl, HSS.out] at hTT
      refine hTT.mono ?_
      rintro e w2 ⟨rfl, ⟨nd, hw2⟩⟩
      have BW := Aside0.mk (show Below w.heap.size w w2 by rw [hw2]; exact pw_below_drewN (((Below.refl _ _).alloc (Nat.le_refl _) _).drew) _)
      clear hTT hw2 hCB
      have hH := H.out
      dsimp only at hH
      by_cases e0 : t3 = 0
      · rw [if_pos e0] at hH
        obtain ⟨x0, x1, x2, x3⟩ := Math.txt_end HTX.out e0
        subst e0
        obtain ⟨q, rfl⟩ := Int.eq_ofNat_of_zero_le (Int.le_trans x0 x1)
        rw [hbl, hss] at x2
        rw [Int.toNat_natCast] at hH
        have ht1 : t1.size ≤ a0.size := by
          rw [x3, strOfNums_size, List.length_drop, List.length_take]
          omega
        have HT1 := Aside0.mk ht1
        have hq : q + p + 1 ≤ a0.size := by omega
        clear x0 x1 x3 H ht1 x2
        have b0 : (p : Int) + 1 + (q : Int) ≤ (a0.size : Int) := by omega
        by_cases c4 : (a0.size : Int) - (p : Int) - 1 - (q : Int) < 4
        · rw [if_pos c4] at hH
          simp only [Option.some.injEq, Prod.mk.injEq] at hH
          obtain ⟨rfl, rfl, rfl, rfl⟩ := hH
          have d4 : decide ((a0.size : Int) - (p : Int) - 1 - (q : Int) < 4) = true := decide_eq_true c4
          go_wp2
          (try simp only [Exit.inBlock, Exit.then])
          refine bodyPost_ret (results_four rfl _ _ _) rfl ?_
          exact ⟨rfl, BW.out⟩
        · rw [if_neg c4] at hH
          have d4 : decide ((a0.size : Int) - (p : Int) - 1 - (q : Int) < 4) = false := decide_eq_false c4
          have b1 : (p : Int) + 1 + (q : Int) + 4 ≤ (a0.size : Int) := by omega
          have b2 : (p : Int) ≤ (p : Int) + 1 + (q : Int) + 4 := by omega
          obtain ⟨k2, hk2⟩ := Math.refseal_ev (bt a0 (p : Int)) t1 (by have := HT1.out; omega)
          have HSE := Aside0.mk (hk2 k2 (Nat.le_refl _))
          dsimp only at HSE
          obtain ⟨S, hS⟩ : ∃ S, strOfNums (Math.sealOf (bt a0 (p : Int)) t1) = S := ⟨_, rfl⟩
          rw [hS] at HSE hH
          rw [show p + 1 + q + 4 = ((p : Int) + 1 + (q : Int) + 4).toNat by omega] at hH
          have HH := Aside0.mk hH
          clear hk2 hS hH
          have hbt : bt a0 (p : Int) = ((a0[p]'hp).toNat : Int) := by
            have := bt_at a0 (p : Int) (by omega)
            rw [← this]
            simp only [Int.toNat_natCast]
          rw [hbt] at HSE
          have HBT := Aside0.mk hbt
          clear hbt
          have b3 : p < a0.size := hp
          have b4 : (p : Int).toNat < a0.size := by omega
          by_cases e5 : S = a0.extract p ((p : Int) + 1 + (q : Int) + 4).toNat
          · have hH := HH.out
            rw [if_pos e5] at hH
            simp only [Option.some.injEq, Prod.mk.injEq] at hH
            obtain ⟨hr1, hr2, hr3, hr4⟩ := hH
            have Hr := Aside0.mk hr1
            subst hr2 hr3 hr4
            clear hr1
            have e6 : (S.toList == (a0.extract p ((p : Int) + 1 + (q : Int) + 4).toNat).toList) = true := by rw [e5]; exact beq_self_eq_true _
            clear e5
            go_wp2_with fail
            go_region_held3 (fun w' => True) (trivial) ((go_at_call 25; (with_reducible refine (pannierref02_Seal.calls k2 _ _ S _ HSE.out).mono ?_); rintro e w3 ⟨rfl, hbe⟩; have HBE := Aside0.mk hbe; clear hbe))
            all_goals go_wp2
            all_goals (try simp only [Exit.inBlock, Exit.then])
            all_goals (refine bodyPost_ret (results_four rfl _ _ _) rfl ?_)
            all_goals exact ⟨by rw [← Hr.out, HBT.out]; rfl, below_step BW.out.drew HBE.out⟩
          · have hH := HH.out
            rw [if_neg e5] at hH
            simp only [Option.some.injEq, Prod.mk.injEq] at hH
            obtain ⟨hr1, hr2, hr3, hr4⟩ := hH
            have Hr := Aside0.mk hr1
            subst hr2 hr3 hr4
            clear hr1
            have e7 : ¬ S.toList = (a0.extract p ((p : Int) + 1 + (q : Int) + 4).toNat).toList := fun h => e5 (by rw [Lib.toList_data, Lib.toList_data] at h; exact ByteArray.ext (Array.toList_inj.1 h))
            have e6 : (S.toList == (a0.extract p ((p : Int) + 1 + (q : Int) + 4).toNat).toList) = false := beq_eq_false_iff_ne.2 e7
            clear e5
            go_wp2_with fail
            go_region_held3 (fun w' => True) (trivial) ((go_at_call 25; (with_reducible refine (pannierref02_Seal.calls k2 _ _ S _ HSE.out).mono ?_); rintro e w3 ⟨rfl, hbe⟩; have HBE := Aside0.mk hbe; clear hbe))
            all_goals go_wp2
            all_goals (try simp only [Exit.inBlock, Exit.then])
            all_goals (refine bodyPost_ret (results_four rfl _ _ _) rfl ?_)
            all_goals exact ⟨by rw [← Hr.out]; rfl, below_step BW.out.drew HBE.out⟩
      · rw [if_neg e0] at hH
        simp only [Option.some.injEq, Prod.mk.injEq] at hH
        obtain ⟨rfl, rfl, rfl, rfl⟩ := hH
        have e1 : (t3 != 0) = true := bne_iff_ne.2 e0
        have e2 : (t3 == 0) = false := beq_eq_false_iff_ne.2 e0
        clear H
        go_wp2
        (try simp only [Exit.inBlock, Exit.then])
        refine bodyPost_ret (results_four rfl _ _ _) rfl ?_
        exact ⟨rfl, BW.out⟩
    · rw [if_neg c1] at h
      simp only [Option.some.injEq, Prod.mk.injEq] at h
      obtain ⟨rfl, rfl, rfl, rfl⟩ := h
      by_cases c2 : a1 < 0
      · have d1 : decide (a1 < 0) = true := decide_eq_true c2
        go_enter Try.func23, Try.ntmps23
        go_wp2
        (try simp only [Exit.inBlock, Exit.then])
        refine bodyPost_ret (results_four rfl _ _ _) rfl ?_
        exact ⟨rfl, Below.refl _ _⟩
      · have d1 : decide (a1 < 0) = false := decide_eq_false c2
        have d2 : decide ((a0.size : Int) ≤ a1) = true := decide_eq_true (by omega)
        go_enter Try.func23, Try.ntmps23
        go_wp2
        (try simp only [Exit.inBlock, Exit.then])
        refine bodyPost_ret (results_four rfl _ _ _) rfl ?_
        exact ⟨rfl, Below.refl _ _⟩
  · rw [if_neg hs] at h
    cases h
end Go.Proofs.Ytecfoepcgammcaa.HandF
