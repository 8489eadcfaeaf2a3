/- Contracts by hand: wire's seal and Seal. -/
import Derived.Test.YtecfoepcgammcaaHandG
import Derived.Test.YtecfoepcgammcaaHandM
import Derived.Test.YtecfoepcgammcaaNumMath
import Derived.Laws.IdiomStrings
namespace Go.Proofs.Ytecfoepcgammcaa.HandF
set_option linter.unusedVariables false
set_option linter.unusedSimpArgs false
open Go.RowKit Go.Proofs.Ytecfoepcgammcaa.X Go.Proofs.Ytecfoepcgammcaa.Blocks
open Go.Proofs.YtecfoepcgammcaaW.PrintWords Go.Proofs.YtecfoepcgammcaaW.PrintLast Go.Proofs.YtecfoepcgammcaaW.PrintMore

def sumBytes (n : Int) : List Int := [n % 256, (n / 256) % 256, (n / 65536) % 256, (n / 16777216) % 256]

set_option maxRecDepth 100000 in
set_option maxHeartbeats 2000000 in
theorem seal_calls (Ap : Option Addr) (cp : Nat) (ps : List (Option Addr × Nat × List Int)) (w : World) (hb : ps.length ≤ 1000)
    (hp : ∀ i p, ps[i]? = some p → ∃ ad, Ap = some ad ∧ w.cell? (ad.add i) = some (.slice p.1 p.2.2.length p.2.1) ∧ Kd.C (Kd.int .u8) w p.1 p.2.2.length p.2.2 ∧ p.2.2.length ≤ 140737488355328) :
    Calls Try.prog 32 #[.slice Ap ps.length cp] w fun e w' => ∃ v, e = .returned v ∧ w'.ownsRow w.heap.size 5 1 v 4 (nums .u8 (sumBytes (Go.bits .xor .u32 4294967295 (crcParts 4294967295 ps)))) ∧ Below w.heap.size w w' := by
  have HP := Aside0.mk hp
  clear hp
  have hsg : IntKind.u32.signed = false := rfl
  go_enter Try.func32, Try.ntmps32
  go_wp2_with (go_at_call 26; refine (add_calls Ap cp ps 4294967295 _ hb HP.out).mono ?_; rintro e w' ⟨rfl, ⟨nd, rfl⟩⟩)
  go_ret
  refine ⟨_, rfl, ⟨rfl, .inr ⟨w.heap.size, 4, _, rfl, Nat.le_refl _, alloc_new (w.drewN nd) _, Nat.le_refl _, by decide, rfl, rfl⟩⟩, (pw_below_drewN (Below.refl _ _) nd).alloc (Nat.le_refl _) _⟩

theorem Math.numB_length9 (n : Nat) : (Math.numB n).length ≤ 9 := by
  unfold Math.numB
  rw [Math.be_length]
  have := Math.ex_le n
  omega

theorem C_bytes (W : World) (s : ByteArray) (cap : Nat) (hs : s.size ≤ 9223372036854775807) (fr : Nat × Nat) :
    (Kd.int .u8).C (W.alloc (.cells (bytesRow s cap) 5 fr)) (some ⟨W.heap.size, 0, none⟩) s.size (bytesOf s) := by
  have hlen : (bytesOf s).length = s.size := bytesOf_length _
  refine ⟨hlen, hs, fun _ => ⟨_, rfl, fun j p hj => ⟨[.int .u8 p], rfl, rfl, fun i u hi => ?_⟩⟩⟩
  cases i with
  | succ i => simp at hi
  | zero =>
    obtain rfl : Value.int .u8 p = u := by simpa using hi
    have h := alloc_new W (.cells (bytesRow s cap) 5 fr)
    have e : (⟨W.heap.size, 0, none⟩ : Addr).add (j * 1 + 0) = ⟨W.heap.size, j, none⟩ := by
      rw [Nat.mul_one, Nat.add_zero]; exact YtecfoepcgammcaaW.PrintWords.add_plain _ _
    show (W.alloc _).cell? ((⟨W.heap.size, 0, none⟩ : Addr).add (j * 1 + 0)) = _
    rw [e]
    simp only [World.cell?, h]
    have hj2 : j < s.data.size := by
      have := (List.getElem?_eq_some_iff.1 hj).1
      rw [hlen] at this
      exact this
    unfold bytesOf at hj
    rw [List.getElem?_map] at hj
    unfold bytesRow
    rw [Array.getElem?_append_left (by rw [Array.size_map]; exact hj2), Array.getElem?_map]
    rw [Array.getElem?_eq_getElem hj2]
    rw [Array.getElem?_toList, Array.getElem?_eq_getElem hj2] at hj
    simp only [Option.map_some, Option.some.injEq] at hj ⊢
    rw [hj]
    simp

def wire_Seal.f (a0 : Int) (a1 : ByteArray) : Option ByteArray :=
  if a1.size + 4096 ≤ 140737488355328 then
    some (strOfNums ([a0] ++ Math.numB a1.size ++ bytesOf a1 ++ sumBytes (Go.bits .xor .u32 4294967295 (crcList (crcList 4294967295 ([a0] ++ Math.numB a1.size)) (bytesOf a1)))))
  else none

set_option maxRecDepth 100000 in
set_option maxHeartbeats 2000000 in
theorem wire_Seal.calls (a0 : Int) (a1 : ByteArray) (r1 : ByteArray) (w : World) (h : wire_Seal.f a0 a1 = some r1) :
    Calls Try.prog 24 #[.int .u8 a0, .string a1] w fun e w' => e = .returned (.string r1) ∧ Below w.heap.size w w' := by
  unfold wire_Seal.f at h
  by_cases hl : a1.size + 4096 ≤ 140737488355328
  · rw [if_pos hl] at h
    have H := Aside0.mk (Option.some.inj h)
    have HL := Aside0.mk hl
    clear h
    obtain ⟨k, hk⟩ := Math.number_some (l := [a0]) (n := a1.size) (by omega) (by simp)
    have HN := Aside0.mk (hk k (Nat.le_refl _))
    dsimp only at HN
    clear hk hl
    have hh9 : ([a0] ++ Math.numB a1.size).length ≤ 10 := by have := Math.numB_length9 a1.size; rw [List.length_append, List.length_singleton]; omega
    obtain ⟨hd, hhd⟩ : ∃ hd, [a0] ++ Math.numB a1.size = hd := ⟨_, rfl⟩
    rw [hhd] at HN H hh9
    clear hhd
    have hw : IntKind.u64.wrap (a1.size : Int) = (a1.size : Int) := by have := HL.out; rw [IntKind.wrap_u64]; omega
    obtain ⟨cf, hcf⟩ : ∃ cf : World → Nat, ∀ W, cf W = grownCap W a1.size 0 5 := ⟨_, fun _ => rfl⟩
    obtain ⟨G, hG⟩ : ∃ G : World → Obj, ∀ W, G W = .cells (bytesRow a1 (cf W)) 5 ((bytesRow a1 (cf W)).size, (bytesRow a1 (cf W)).size + 1) := ⟨_, fun _ => rfl⟩
    have kc : ∀ W : World, (convert 9 22 (.string a1)).run Try.prog W = .ok (.slice (some ⟨W.heap.size, 0, none⟩) a1.size (cf W)) (W.drew.alloc (G W)) := fun W => by
      have := Go.run_bytes_of_string (P := Try.prog) W 9 22 5 a1 Try.underlying9 Try.underlying22 Try.underlying5
      rw [← hcf, ← hG] at this
      exact this
    have HG := Aside0.mk hG
    have HCF := Aside0.mk hcf
    clear hG hcf
    go_enter Try.func24, Try.ntmps24
    go_wp2_with fail
    refine (wire_Number.calls k (some ⟨w.heap.size, 0, none⟩) 1 [a0] (a1.size : Int) _ _ (C_marked w [a0] (by simp) (0, 0) _ rfl) (Nat.le_refl _) HN.out).mono ?_
    rintro e w1 ⟨v1, rfl, ho, hb⟩
    have HO1 := Aside0.mk ho
    have HB1 := Aside0.mk hb
    clear ho hb
    obtain ⟨A1, c1, rfl⟩ := Kd.R_slice HO1.out
    go_wp2_with fail
    obtain ⟨X1, hX1⟩ : ∃ X1, w1.alloc (G w1) = X1 := ⟨_, rfl⟩
    rw [hX1]
    obtain ⟨X2, hX2⟩ : ∃ X2, X1.alloc (G X1.drew) = X2 := ⟨_, rfl⟩
    rw [hX2]
    obtain ⟨cap2, hcap2⟩ : ∃ c, cf X1.drew = c := ⟨_, rfl⟩
    obtain ⟨cap1, hcap1⟩ : ∃ c, cf w1 = c := ⟨_, rfl⟩
    rw [hcap2, hcap1]
    obtain ⟨X3, hX3⟩ : ∃ X3, X2.alloc (.cells #[.slice A1 hd.length c1, .slice (some ⟨w1.heap.size + 1, 0, none⟩) a1.size cap2] 22) = X3 := ⟨_, rfl⟩
    rw [hX3]
    have hsz := HL.out
    have b1 : Below w1.heap.size w1 X1 := by rw [← hX1]; exact (Below.refl _ _).alloc (Nat.le_refl _) _
    have b2 : Below X1.heap.size X1 X2 := by rw [← hX2]; exact (Below.refl _ _).alloc (Nat.le_refl _) _
    have b3 : Below X2.heap.size X2 X3 := by rw [← hX3]; exact (Below.refl _ _).alloc (Nat.le_refl _) _
    have s1 : X1.heap.size = w1.heap.size + 1 := by rw [← hX1]; simp
    have s2 : X2.heap.size = w1.heap.size + 1 + 1 := by rw [← hX2]; simp [s1]
    have CB1 : (Kd.int .u8).C X1 (some ⟨w1.heap.size, 0, none⟩) a1.size (bytesOf a1) := by rw [← hX1, HG.out]; exact C_bytes w1 a1 _ (by omega) _
    have CB2 : (Kd.int .u8).C X2 (some ⟨w1.heap.size + 1, 0, none⟩) a1.size (bytesOf a1) := by rw [← hX2, HG.out, ← s1]; exact C_bytes X1 a1 _ (by omega) _
    have CH := (Kd.R_reads' HO1.out).2.2
    have hX3h : X3.heap[w1.heap.size + 1 + 1]? = some (.cells #[.slice A1 hd.length c1, .slice (some ⟨w1.heap.size + 1, 0, none⟩) a1.size cap2] 22 (0, 0)) := by rw [← hX3, ← s2]; exact alloc_new X2 _
    have CH3 : (Kd.int .u8).C X3 A1 hd.length hd := Kd.C_below (Kd.C_below (Kd.C_below CH b1) b2) b3
    have CB13 : (Kd.int .u8).C X3 (some ⟨w1.heap.size, 0, none⟩) a1.size (bytesOf a1) := Kd.C_below (Kd.C_below CB1 b2) b3
    have CB23 : (Kd.int .u8).C X3 (some ⟨w1.heap.size + 1, 0, none⟩) a1.size (bytesOf a1) := Kd.C_below CB2 b3
    have hbl : (bytesOf a1).length = a1.size := bytesOf_length _
    have BX := Aside0.mk (below_step (below_step (below_step HB1.out (by exact b1)) (by exact b2)) (by exact b3))
    have C1 := Aside0.mk CH3
    have C2 := Aside0.mk CB13
    have C3 := Aside0.mk CB23
    have S3 := Aside0.mk hX3h
    clear hX1 hX2 hX3 b1 b2 b3 s1 s2 CB1 CB2 CH hX3h CH3 CB13 CB23 hcap1 hcap2
    refine (seal_calls (some ⟨w1.heap.size + 1 + 1, 0, none⟩) 2 [(A1, c1, hd), (some ⟨w1.heap.size + 1, 0, none⟩, cap2, bytesOf a1)] _ (by simp) ?_).mono ?_
    · intro i p hip
      refine ⟨_, rfl, ?_⟩
      rw [show (⟨w1.heap.size + 1 + 1, 0, none⟩ : Addr).add i = ⟨w1.heap.size + 1 + 1, i, none⟩ from YtecfoepcgammcaaW.PrintWords.add_plain _ _]
      match i, hip with
      | 0, hip =>
        obtain rfl : (A1, c1, hd) = p := by simpa using hip
        exact ⟨cell0 S3.out, C1.out, by show hd.length ≤ _; omega⟩
      | 1, hip =>
        obtain rfl : ((some ⟨w1.heap.size + 1, 0, none⟩ : Option Addr), cap2, bytesOf a1) = p := by simpa using hip
        refine ⟨?_, ?_, ?_⟩
        · show X3.cell? ⟨w1.heap.size + 1 + 1, 1, none⟩ = some (.slice _ (bytesOf a1).length _)
          rw [hbl]; exact cell1 S3.out
        · show (Kd.int .u8).C X3 _ (bytesOf a1).length _
          rw [hbl]; exact C3.out
        · show (bytesOf a1).length ≤ _
          rw [hbl]; omega
      | i + 2, hip => simp at hip
    · rintro e w2 ⟨v2, rfl, hown2, hb2⟩
      obtain ⟨A4, c4, rfl⟩ := own_slice hown2
      have hcrc : crcParts 4294967295 [(A1, c1, hd), (some ⟨w1.heap.size + 1, 0, none⟩, cap2, bytesOf a1)] = crcList (crcList 4294967295 hd) (bytesOf a1) := rfl
      rw [hcrc] at hown2
      obtain ⟨q, hq⟩ : ∃ q, sumBytes (Go.bits .xor .u32 4294967295 (crcList (crcList 4294967295 hd) (bytesOf a1))) = q := ⟨_, rfl⟩
      have hq4 : q.length = 4 := by rw [← hq]; rfl
      rw [hq] at hown2 H
      have hb2' : Below X3.heap.size X3 w2 := below_step (((Below.refl _ _).drew).drew) hb2
      have D1 := Aside0.mk (Kd.C_below C1.out hb2')
      have D2 := Aside0.mk (Kd.C_below C2.out hb2')
      have BW := Aside0.mk (below_step BX.out hb2')
      have HO4 := Aside0.mk hown2
      clear hown2 hb2 hb2' C1 C2 C3 S3 hcrc hq BX
      go_wp2_with fail
      obtain ⟨X5, hX5⟩ : ∃ X5, w2.alloc (.cells #[.slice A1 hd.length c1, .slice (some ⟨w1.heap.size, 0, none⟩) a1.size cap1, .slice A4 4 c4] 22) = X5 := ⟨_, rfl⟩
      rw [hX5]
      have b5 : Below w2.heap.size w2 X5 := by rw [← hX5]; exact (Below.refl _ _).alloc (Nat.le_refl _) _
      have h5 : X5.heap[w2.heap.size]? = some (.cells #[.slice A1 hd.length c1, .slice (some ⟨w1.heap.size, 0, none⟩) a1.size cap1, .slice A4 4 c4] 22 (0, 0)) := by rw [← hX5]; exact alloc_new w2 _
      have E1 := Aside0.mk (Kd.C_below D1.out b5)
      have E2 := Aside0.mk (Kd.C_below D2.out b5)
      have E4 : Aside0 ((Kd.int .u8).C X5 A4 4 q) := ⟨Kd.C_below (Kd.R_reads' (Kd.R_of_own (ok := fun _ => True) (by rw [hq4]; exact HO4.out) (fun _ _ => trivial))).2.2 b5 |> fun h => by rw [hq4] at h; exact h⟩
      have BV := Aside0.mk (below_step BW.out b5)
      have H5 := Aside0.mk h5
      clear b5 h5 hX5 D1 D2
      have hfl : flat [(A1, c1, hd), ((some ⟨w1.heap.size, 0, none⟩ : Option Addr), cap1, bytesOf a1), (A4, c4, q)] = hd ++ bytesOf a1 ++ q := by simp [flat]
      refine (concat_calls (some ⟨w2.heap.size, 0, none⟩) 3 [(A1, c1, hd), (some ⟨w1.heap.size, 0, none⟩, cap1, bytesOf a1), (A4, c4, q)] _ (by simp) (by rw [hfl, List.length_append, List.length_append, hbl, hq4]; omega) ?_).mono ?_
      · intro i p hip
        refine ⟨_, rfl, ?_⟩
        rw [show (⟨w2.heap.size, 0, none⟩ : Addr).add i = ⟨w2.heap.size, i, none⟩ from YtecfoepcgammcaaW.PrintWords.add_plain _ _]
        match i, hip with
        | 0, hip =>
          obtain rfl : (A1, c1, hd) = p := by simpa using hip
          exact ⟨by simp [World.cell?, H5.out], E1.out, by show hd.length ≤ _; omega⟩
        | 1, hip =>
          obtain rfl : ((some ⟨w1.heap.size, 0, none⟩ : Option Addr), cap1, bytesOf a1) = p := by simpa using hip
          refine ⟨?_, ?_, ?_⟩
          · show X5.cell? ⟨w2.heap.size, 1, none⟩ = some (.slice _ (bytesOf a1).length _)
            rw [hbl]; simp [World.cell?, H5.out]
          · show (Kd.int .u8).C X5 _ (bytesOf a1).length _
            rw [hbl]; exact E2.out
          · show (bytesOf a1).length ≤ _
            rw [hbl]; omega
        | 2, hip =>
          obtain rfl : (A4, c4, q) = p := by simpa using hip
          refine ⟨?_, ?_, ?_⟩
          · show X5.cell? ⟨w2.heap.size, 2, none⟩ = some (.slice _ q.length _)
            rw [hq4]; simp [World.cell?, H5.out]
          · show (Kd.int .u8).C X5 _ q.length _
            rw [hq4]; exact E4.out
          · show q.length ≤ _
            rw [hq4]; decide
        | i + 3, hip => simp at hip
      · rintro e w3 ⟨v3, rfl, hown3, hb3⟩
        rw [hfl] at hown3
        have hcv := own_string (P := Try.prog) Try.underlying22 Try.underlying5 Try.underlying9 hown3
        have BF := Aside0.mk (below_step BV.out hb3)
        obtain ⟨R, hR⟩ : ∃ R, hd ++ bytesOf a1 ++ q = R := ⟨_, rfl⟩
        rw [hR] at hcv hown3 H
        clear E1 E2 E4 H5 HO4 hfl hb3 BV BW
        go_wp2
        go_ret
        exact ⟨by rw [← H.out]; rfl, below_step ((Below.refl _ _).alloc (Nat.le_refl _) _) BF.out⟩
  · rw [if_neg hl] at h
    cases h
end Go.Proofs.Ytecfoepcgammcaa.HandF
