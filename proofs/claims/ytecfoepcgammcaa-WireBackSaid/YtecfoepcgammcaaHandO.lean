/- A contract by hand: wire.Open. -/
import Derived.Deep.RegionHeld3
import Derived.Deep.DrawnRows
import Derived.Test.YtecfoepcgammcaaHandQ
import Derived.Test.YtecfoepcgammcaaEqMath
import Derived.Test.YtecfoepcgammcaaTextMath
import Derived.Test.YtecfoepcgammcaaX31
namespace Go.Proofs.Ytecfoepcgammcaa.HandF
set_option linter.unusedVariables false
set_option linter.unusedSimpArgs false
open Go.RowKit Go.Proofs.Ytecfoepcgammcaa.X Go.Proofs.Ytecfoepcgammcaa.Blocks
open Go.Proofs.YtecfoepcgammcaaW.PrintWords Go.Proofs.YtecfoepcgammcaaW.PrintLast Go.Proofs.YtecfoepcgammcaaW.PrintMore

theorem results_four {fn : Func} {t u v x : Tmp} (h : fn.results = #[.tmp t, .tmp u, .tmp v, .tmp x]) (tmps : Array Value) (P : Program) (w : World) :
    (results fn tmps).run P w = .ok (.tuple #[tmps.getD t undef, tmps.getD u undef, tmps.getD v undef, tmps.getD x undef]) w := by
  simp [results, h]

/-- What is read of a record that begins with the first byte. -/
def openOf (b : List Int) (p most : Int) : Option (Int × ByteArray × Int × Int) :=
  (Math.txt b most (Math.takeNum b 1)).bind fun t =>
    if t.2.2 = 0 then
      (if (b.length : Int) - t.2.1 < 4 then some (0, ⟨#[]⟩, 0, 20)
      else if sumBytes (Go.bits .xor .u32 4294967295 (crcList 4294967295 (b.take t.2.1.toNat))) = (b.take (t.2.1.toNat + 4)).drop t.2.1.toNat then some (rd b 0, t.1, p + t.2.1 + 4, 0)
      else some (0, ⟨#[]⟩, 0, 21))
    else some (0, ⟨#[]⟩, 0, 20)
def wire_Open.f (a0 : ByteArray) (a1 a2 : Int) : Option (Int × ByteArray × Int × Int) :=
  if a0.size ≤ 140737488371712 ∧ a0.size - a1.toNat ≤ 140737488351232 then
    (if 0 ≤ a1 ∧ a1 < a0.size then openOf (bytesOf (a0.extract a1.toNat a0.size)) a1 a2 else some (0, ⟨#[]⟩, 0, 20))
  else none

theorem bytesOf_bytes (s : ByteArray) : Math.Bytes (bytesOf s) := by
  intro x hx
  unfold bytesOf at hx
  obtain ⟨b, _, rfl⟩ := List.mem_map.1 hx
  have := b.toNat_lt
  omega

set_option maxRecDepth 100000 in
set_option maxHeartbeats 2000000 in
theorem wire_Open.calls (a0 : ByteArray) (a1 a2 : Int) (r1 : Int) (r2 : ByteArray) (r3 r4 : Int) (w : World) (h : wire_Open.f a0 a1 a2 = some (r1, r2, r3, r4)) :
    Calls Try.prog 22 #[.string a0, .int .i64 a1, .int .i64 a2] w fun e w' => e = .returned (.tuple #[.int .u8 r1, .string r2, .int .i64 r3, .int .i64 r4]) ∧ Below w.heap.size w w' := by
  unfold wire_Open.f at h
  by_cases hs : a0.size ≤ 140737488371712 ∧ a0.size - a1.toNat ≤ 140737488351232
  · rw [if_pos hs] at h
    obtain ⟨hs, hs2⟩ := hs
    by_cases c1 : 0 ≤ a1 ∧ a1 < a0.size
    · rw [if_pos c1] at h
      obtain ⟨p, rfl⟩ := Int.eq_ofNat_of_zero_le c1.1
      rw [Int.toNat_natCast] at h hs2
      have hp : p < a0.size := by omega
      clear c1
      obtain ⟨s, hsx⟩ : ∃ s, a0.extract p a0.size = s := ⟨_, rfl⟩
      have hss : s.size = a0.size - p := by rw [← hsx]; simp [ByteArray.size_extract]
      rw [hsx] at h
      have hbl : (bytesOf s).length = s.size := bytesOf_length _
      obtain ⟨t, ht, k, hk⟩ := Math.text_ev (bytesOf_bytes s) (by omega) 1 a2
      have HT := Aside0.mk (hk k (Nat.le_refl _))
      dsimp only at HT
      unfold openOf at h
      rw [ht, Option.bind_some] at h
      have H := Aside0.mk h
      have HTX := Aside0.mk ht
      clear h hk ht
      have d1 : decide ((p : Int) < 0) = false := decide_eq_false (by omega)
      have d2 : decide (a0.size ≤ p) = false := decide_eq_false (by omega)
      have d3 : decide ((a0.size : Int) ≤ (p : Int)) = false := decide_eq_false (by omega)
      have q0 : (0 : Int) ≤ (p : Int) := by omega
      have q1 : (p : Int) ≤ (a0.size : Int) := by omega
      have HSX := Aside0.mk hsx
      have HSS := Aside0.mk hss
      obtain ⟨cf, hcf⟩ : ∃ cf : ByteArray → World → Nat, ∀ s W, cf s W = grownCap W s.size 0 5 := ⟨_, fun _ _ => rfl⟩
      obtain ⟨G, hG⟩ : ∃ G : ByteArray → World → Obj, ∀ s W, G s W = .cells (bytesRow s (cf s W)) 5 ((bytesRow s (cf s W)).size, (bytesRow s (cf s W)).size + 1) := ⟨_, fun _ _ => rfl⟩
      have kc : ∀ (s : ByteArray) (W : World), (convert 9 22 (.string s)).run Try.prog W = .ok (.slice (some ⟨W.heap.size, 0, none⟩) s.size (cf s W)) (W.drew.alloc (G s W)) := fun s W => by
        have := Go.run_bytes_of_string (P := Try.prog) W 9 22 5 s Try.underlying9 Try.underlying22 Try.underlying5
        rw [← hcf, ← hG] at this
        exact this
      have HG := Aside0.mk hG
      have HCF := Aside0.mk hcf
      clear hG hcf
      go_enter Try.func22, Try.ntmps22
      go_wp2_with fail
      have hCB : (Kd.int .u8).C (w.alloc (G s w)).drew (some ⟨w.heap.size, 0, none⟩) s.size (bytesOf s) := by rw [HG.out]; exact Kd.C_drew (C_bytes w s _ (by omega) _)
      have hcap : s.size ≤ cf s w := by rw [HCF.out]; exact grownCap_ge _ _ _ _
      obtain ⟨t1, t2, t3⟩ := t
      have hTT := wire_TakeText.calls k (some ⟨w.heap.size, 0, none⟩) (cf s w) (bytesOf s) 1 a2 t1 t2 t3 (w.alloc (G s w)).drew (by rw [hbl]; exact hCB) (by rw [hbl]; exact hcap) HT.out
      rw [hbl, HSS.out] at hTT
      refine hTT.mono ?_
      rintro e w2 ⟨rfl, hb2⟩
      have hb0 : Below w.heap.size w w2 := below_step (((Below.refl _ _).alloc (Nat.le_refl _) _).drew) hb2
      have BW := Aside0.mk hb0
      have CB := Aside0.mk (Kd.C_below hCB hb2)
      clear hTT hb2 hb0 hCB
      have hH := H.out
      dsimp only at hH
      by_cases e0 : t3 = 0
      · rw [if_pos e0] at hH
        obtain ⟨x0, x1, x2, x3⟩ := Math.txt_end HTX.out e0
        subst e0
        obtain ⟨q, rfl⟩ := Int.eq_ofNat_of_zero_le (Int.le_trans x0 x1)
        rw [hbl, hss] at x2 hH
        rw [Int.toNat_natCast] at hH
        have HLn : Aside0 (((a0.size - p : Nat) : Int) = (a0.size : Int) - (p : Int)) := ⟨by omega⟩
        clear x0 x1 x3 H
        by_cases c4 : ((a0.size - p : Nat) : Int) - (q : Int) < 4
        · rw [if_pos c4] at hH
          simp only [Option.some.injEq, Prod.mk.injEq] at hH
          obtain ⟨rfl, rfl, rfl, rfl⟩ := hH
          have d4 : decide (((a0.size - p : Nat) : Int) - (q : Int) < 4) = true := decide_eq_true c4
          go_wp2
          (try simp only [Exit.inBlock, Exit.then])
          refine bodyPost_ret (results_four rfl _ _ _) rfl ?_
          exact ⟨rfl, BW.out⟩
        · rw [if_neg c4] at hH
          have d4 : decide (((a0.size - p : Nat) : Int) - (q : Int) < 4) = false := decide_eq_false c4
          obtain ⟨L, hL⟩ : ∃ L, a0.size - p = L := ⟨_, rfl⟩
          rw [hL] at d4 x2 c4 ⊢
          have hbL : (bytesOf s).length = L := by rw [hbl, HSS.out, hL]
          have hq4 : q + 4 ≤ L := by omega
          have hqL : q ≤ L := by omega
          have hLb : L ≤ 140737488355328 := by omega
          have CB2 := CB.out
          obtain ⟨b, hb⟩ : ∃ b, bytesOf s = b := ⟨_, rfl⟩
          rw [hb] at hbL hH CB2
          rw [← hbl, hb, hbL] at CB2
          obtain ⟨cap, hcp⟩ : ∃ cap, cf s w = cap := ⟨_, rfl⟩
          have hcl : L ≤ cap := by rw [← hcp]; omega
          rw [hcp]
          obtain ⟨i0, hi0, _, hsz0, _⟩ := info_parts info5
          obtain ⟨hcut, hA1, _⟩ := print_take_of (P := Try.prog) (Value.int .u8) 0 22 5 .i64 Try.underlying22 hi0 hsz0 (some ⟨w.heap.size, 0, none⟩) cap b (q : Int) (by omega) (by omega) (by omega)
          obtain ⟨A', hmid, hA2, hcm⟩ := print_mid_of (P := Try.prog) (Value.int .u8) 0 22 5 .i64 .i64 Try.underlying22 hi0 hsz0 (some ⟨w.heap.size, 0, none⟩) cap b (q : Int) ((q : Int) + 4) (by omega) (by omega) (by omega) (by omega)
          have hR1 := Kd.C_of_reads (h1 := fun _ => rfl) (hA1 _ (Kd.reads_of_C (by rw [hbL]; exact CB2)))
          have hR2 := Kd.C_of_reads (h1 := fun _ => rfl) (hA2 _ (Kd.reads_of_C (by rw [hbL]; exact CB2)))
          rw [show ((q : Int) + 4).toNat = q + 4 by omega, Int.toNat_natCast] at hR2 hmid hcm
          rw [Int.toNat_natCast] at hR1 hcut
          have hl1 : (b.take q).length = q := by rw [List.length_take]; omega
          have hl2 : ((b.take (q + 4)).drop q).length = 4 := by rw [List.length_drop, List.length_take]; omega
          obtain ⟨b1, hb1⟩ : ∃ b1, b.take q = b1 := ⟨_, rfl⟩
          obtain ⟨b2, hb2⟩ : ∃ b2, (b.take (q + 4)).drop q = b2 := ⟨_, rfl⟩
          rw [hb1] at hR1 hcut hl1 hH
          rw [hb2] at hR2 hmid hcm hl2 hH
          rw [hl1, hbL] at hcut
          rw [hl2, hbL] at hmid
          rw [hl2] at hcm
          obtain ⟨S, hS⟩ : ∃ S, sumBytes (Go.bits .xor .u32 4294967295 (crcList 4294967295 b1)) = S := ⟨_, rfl⟩
          have hSl : S.length = 4 := by rw [← hS]; rfl
          rw [hS] at hH
          obtain ⟨k2, hk2⟩ := Math.equal_ev S b2 (by rw [hSl]; decide)
          obtain ⟨r5, hr5⟩ : ∃ r5, decide (S = b2) = r5 := ⟨_, rfl⟩
          rw [hr5] at hk2
          have HEQ := Aside0.mk (hk2 k2 (Nat.le_refl _))
          have hcell : w2.cell? ⟨w.heap.size, 0, none⟩ = some (.int .u8 (rd b 0)) := by
            obtain ⟨ad, e, hc⟩ := Kd.at_int CB2 0 (by omega) (by omega)
            cases e
            exact hc
          have HCE := Aside0.mk hcell
          have R1 := Aside0.mk hR1
          have R2 := Aside0.mk hR2
          have Hl1 := Aside0.mk hl1
          have Hl2 := Aside0.mk hl2
          have HS := Aside0.mk hS
          have HSl := Aside0.mk hSl
          have Hcm := Aside0.mk hcm
          have p0 : (0 : Int) ≤ (q : Int) := by omega
          have p1 : (q : Int) ≤ (L : Int) := by omega
          have p2 : (q : Int) ≤ (q : Int) + 4 := by omega
          have p3 : (q : Int) + 4 ≤ (L : Int) := by omega
          have p4 : 0 < L := by omega
          have p5 : (0 : Int) < (L : Int) := by omega
          clear hA1 hA2 hR1 hR2 hl1 hl2 hS hSl hk2 hcell hcm hi0 hsz0 hb1 hb2 hbL hcp hb CB2 c4 x2
          have CS : Aside0 (∀ (W : World), Below w2.heap.size w2 W → ∀ (g : Nat), W.heap[g]? = some (.cells #[.slice (some ⟨w.heap.size, 0, none⟩) q cap] 22 (0, 0)) → Calls Try.prog 32 #[.slice (some ⟨g, 0, none⟩) 1 1] W fun e w' => ∃ A4 c4, e = .returned (.slice A4 4 c4) ∧ 4 ≤ c4 ∧ (Kd.int .u8).C w' A4 4 S ∧ Below w2.heap.size w2 w' ∧ w'.cell? ⟨w.heap.size, 0, none⟩ = some (.int .u8 (rd b 0))) := ⟨by
            intro W hbW g hg
            have hCW := Kd.C_below R1.out hbW
            refine (seal_calls (some ⟨g, 0, none⟩) 1 [(some ⟨w.heap.size, 0, none⟩, cap, b1)] W (by simp) ?_).mono ?_
            · intro i pp hip
              refine ⟨_, rfl, ?_⟩
              rw [show (⟨g, 0, none⟩ : Addr).add i = ⟨g, i, none⟩ from YtecfoepcgammcaaW.PrintWords.add_plain _ _]
              match i, hip with
              | 0, hip =>
                obtain rfl : ((some ⟨w.heap.size, 0, none⟩ : Option Addr), cap, b1) = pp := by simpa using hip
                refine ⟨?_, hCW, ?_⟩
                · show W.cell? ⟨g, 0, none⟩ = some (.slice _ b1.length _)
                  rw [Hl1.out]; simp [World.cell?, hg]
                · show b1.length ≤ _
                  rw [Hl1.out]; omega
              | i + 1, hip => simp at hip
            · rintro e w3 ⟨v, rfl, hown, hbe⟩
              have hcrc : crcParts 4294967295 [((some ⟨w.heap.size, 0, none⟩ : Option Addr), cap, b1)] = crcList 4294967295 b1 := rfl
              rw [hcrc, HS.out] at hown
              have hR := Kd.R_of_own (h1 := fun _ => rfl) (ok := fun _ => True) (by rw [HSl.out]; exact hown) (fun _ _ => trivial)
              obtain ⟨A4, c4, rfl, hl4, hC4⟩ := Kd.R_reads hR
              rw [HSl.out] at hl4 hC4
              exact ⟨A4, c4, by rw [HSl.out], hl4, hC4, below_step hbW hbe, ((below_step hbW hbe).cell (World.block_lt_of_cell? _ _ HCE.out)).trans HCE.out⟩⟩
          have CE : Aside0 (∀ (A4 : Option Addr) (c4 : Nat) (W : World), 4 ≤ c4 → (Kd.int .u8).C W A4 4 S → Below w2.heap.size w2 W → Calls Try.prog 31 #[.slice A4 4 c4, .slice A' 4 (cap - q)] W fun e w' => e = .returned (.bool r5) ∧ Drawn0 W w') := ⟨by
            intro A4 c4 W hl4 hC4 hbW
            have := slices_Equal_byte_byte.calls k2 A4 c4 S A' (cap - q) b2 r5 W (by rw [HSl.out]; exact hC4) (by rw [HSl.out]; exact hl4) (by have := Kd.C_below R2.out hbW; exact this) (by rw [Hl2.out]; exact Hcm.out) HEQ.out
            rw [HSl.out, Hl2.out] at this
            exact this⟩
          have p6 : (p : Int) + (q : Int) ≤ 140737488371712 := by have := HLn.out; omega
          have HH := Aside0.mk hH
          have HR5 := Aside0.mk hr5
          clear hH hr5
          have hw4 : IntKind.i64.wrap ((q : Int) + 4) = (q : Int) + 4 := IntWalk.i64_in _ (by omega)
          go_wp2_with fail
          go_region_held3 (fun w' => True) (trivial) (first | (go_at_call 32; refine (CS.out _ ?_ _ ?_).mono ?_; (exact ((Below.refl _ _).drew).alloc (Nat.le_refl _) _); (exact alloc_new _ _); rintro e w3 ⟨A4, c4, rfl, hl4, hC4, hbe, hce⟩; have HC4 := Aside0.mk hC4; have HL4 := Aside0.mk hl4; have HBE := Aside0.mk hbe; clear hC4 hl4 hbe) | (go_at_call 31; refine (CE.out _ _ _ HL4.out HC4.out HBE.out).mono ?_; rintro e w' ⟨rfl, ⟨nd, rfl⟩⟩))
          cases r5
          · go_wp2
            have hH := HH.out
            rw [if_neg (of_decide_eq_false HR5.out)] at hH
            simp only [Option.some.injEq, Prod.mk.injEq] at hH
            obtain ⟨rfl, rfl, rfl, rfl⟩ := hH
            (try simp only [Exit.inBlock, Exit.then])
            refine bodyPost_ret (results_four rfl _ _ _) rfl ?_
            exact ⟨rfl, pw_below_drewN (below_step BW.out HBE.out) _⟩
          · go_wp2
            have hH := HH.out
            rw [if_pos (of_decide_eq_true HR5.out)] at hH
            simp only [Option.some.injEq, Prod.mk.injEq] at hH
            obtain ⟨rfl, rfl, rfl, rfl⟩ := hH
            (try simp only [Exit.inBlock, Exit.then])
            refine bodyPost_ret (results_four rfl _ _ _) rfl ?_
            exact ⟨rfl, pw_below_drewN (below_step BW.out HBE.out) _⟩
      · rw [if_neg e0] at hH
        simp only [Option.some.injEq, Prod.mk.injEq] at hH
        obtain ⟨rfl, rfl, rfl, rfl⟩ := hH
        have e1 : (t3 != 0) = true := bne_iff_ne.2 e0
        have e2 : (t3 == 0) = false := beq_eq_false_iff_ne.2 e0
        clear H
        go_wp2
        (try simp only [Exit.inBlock, Exit.then])
        refine bodyPost_ret (results_four rfl _ _ _) rfl ?_
        exact ⟨rfl, BW.out⟩
    · rw [if_neg c1] at h
      simp only [Option.some.injEq, Prod.mk.injEq] at h
      obtain ⟨rfl, rfl, rfl, rfl⟩ := h
      by_cases c2 : a1 < 0
      · have d1 : decide (a1 < 0) = true := decide_eq_true c2
        go_enter Try.func22, Try.ntmps22
        go_wp2
        (try simp only [Exit.inBlock, Exit.then])
        refine bodyPost_ret (results_four rfl _ _ _) rfl ?_
        exact ⟨rfl, Below.refl _ _⟩
      · have d1 : decide (a1 < 0) = false := decide_eq_false c2
        have d2 : decide ((a0.size : Int) ≤ a1) = true := decide_eq_true (by omega)
        go_enter Try.func22, Try.ntmps22
        go_wp2
        (try simp only [Exit.inBlock, Exit.then])
        refine bodyPost_ret (results_four rfl _ _ _) rfl ?_
        exact ⟨rfl, Below.refl _ _⟩
  · rw [if_neg hs] at h
    cases h
end Go.Proofs.Ytecfoepcgammcaa.HandF
