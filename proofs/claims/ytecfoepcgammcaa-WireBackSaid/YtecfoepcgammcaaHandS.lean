/- Contracts by hand: wire's add and Sum. -/
import Derived.Test.YtecfoepcgammcaaX0
import Derived.Test.YtecfoepcgammcaaBlocks
import Derived.WalkSpells
import Derived.WalkMore
import Derived.Lib.Hide
namespace Go.Proofs.Ytecfoepcgammcaa.HandF
set_option linter.unusedVariables false
set_option linter.unusedSimpArgs false
open Go.RowKit Go.Proofs.Ytecfoepcgammcaa.X Go.Proofs.Ytecfoepcgammcaa.Blocks
open Go.Proofs.YtecfoepcgammcaaW.PrintWords Go.Proofs.YtecfoepcgammcaaW.PrintLast Go.Proofs.YtecfoepcgammcaaW.PrintMore

/-- One bit of the sum. -/
def crcBit (c : Int) : Int := if Go.bits .and .u32 c 1 = 0 then c / 2 else Go.bits .xor .u32 (c / 2) 3988292384
def crcIter : Nat → Int → Int
  | 0, c => c
  | n + 1, c => crcIter n (crcBit c)
def crcByte (c x : Int) : Int := crcIter 8 (Go.bits .xor .u32 c (x % 4294967296))
def crcList (c : Int) (l : List Int) : Int := l.foldl crcByte c
def crcParts (c : Int) (ps : List (Option Addr × Nat × List Int)) : Int := ps.foldl (fun c p => crcList c p.2.2) c

set_option maxRecDepth 100000 in
set_option maxHeartbeats 2000000 in
theorem add_calls (Ap : Option Addr) (cp : Nat) (ps : List (Option Addr × Nat × List Int)) (c : Int) (w : World) (hb : ps.length ≤ 1000)
    (hp : ∀ i p, ps[i]? = some p → ∃ ad, Ap = some ad ∧ w.cell? (ad.add i) = some (.slice p.1 p.2.2.length p.2.1) ∧ Kd.C (Kd.int .u8) w p.1 p.2.2.length p.2.2 ∧ p.2.2.length ≤ 140737488355328) :
    Calls Try.prog 26 #[.int .u32 c, .slice Ap ps.length cp] w fun e w' => e = .returned (.int .u32 (crcParts c ps)) ∧ Drawn0 w w' := by
  have HP := Aside0.mk hp
  clear hp
  obtain ⟨R, hR⟩ : ∃ R, crcParts c ps = R := ⟨_, rfl⟩
  rw [hR]
  have HR := Aside0.mk hR
  clear hR
  go_enter Try.func26, Try.ntmps26
  go_wp2_with fail
  go_loopw [0, 12] (fun v0 v12 wr => ∃ (i : Nat) (d : Int), v0 = .int .u32 d ∧ v12 = .int .i64 (i : Int) ∧ wr = w ∧ i ≤ ps.length ∧ Aside0 (crcParts d (ps.drop i) = R)) (fun _ v12 _ => ps.length - (intOf v12).toNat)
  case atStart => exact ⟨0, c, rfl, rfl, rfl, Nat.zero_le _, HR⟩
  case round =>
    obtain ⟨i, d, rfl, rfl, rfl, hi, HD⟩ := hrel
    by_cases h1 : i < ps.length
    · have d1 : decide ((i : Int) < (ps.length : Int)) = true := decide_eq_true (by omega)
      obtain ⟨p, hp⟩ : ∃ p, ps[i] = p := ⟨_, rfl⟩
      have hg : ps[i]? = some p := by rw [List.getElem?_eq_getElem h1, hp]
      obtain ⟨ad, rfl, hcell, hC, hpl⟩ := HP.out i p hg
      obtain ⟨pA, pc, l⟩ := p
      dsimp only at hcell hC hpl
      have HC := Aside0.mk hC
      have hd := HD.out
      rw [List.drop_eq_getElem_cons h1, hp] at hd
      have HD2 : Aside0 (crcParts (crcList d l) (ps.drop (i + 1)) = R) := ⟨hd⟩
      have p0 : (0 : Int) ≤ (i : Int) := Int.natCast_nonneg i
      have p1 : (i : Int) < (ps.length : Int) := by omega
      have H1 := Aside0.mk h1
      clear hd HD hp hg hC h1
      go_wp2_with fail
      obtain ⟨S, hS⟩ : ∃ S, crcList d l = S := ⟨_, rfl⟩
      have HS := Aside0.mk hS
      rw [hS] at HD2
      clear hS
      go_loopw [0, 18] (fun v0 v18 wr2 => ∃ (j : Nat) (d : Int), v0 = .int .u32 d ∧ v18 = .int .i64 (j : Int) ∧ wr2 = wr ∧ j ≤ l.length ∧ Aside0 (crcList d (l.drop j) = S)) (fun _ v18 _ => l.length - (intOf v18).toNat)
      case atStart => exact ⟨0, d, rfl, rfl, rfl, Nat.zero_le _, HS⟩
      case round =>
        obtain ⟨j, d2, rfl, rfl, rfl, hj, HD3⟩ := hrel
        by_cases h2 : j < l.length
        · have d2b : decide ((j : Int) < (l.length : Int)) = true := decide_eq_true (by omega)
          have q0 : (0 : Int) ≤ (j : Int) := Int.natCast_nonneg j
          have q1 : (j : Int) < (l.length : Int) := by omega
          obtain ⟨bd, rfl, hbyte⟩ := Kd.at_int HC.out (j : Int) q0 q1
          have hd := HD3.out
          rw [List.drop_eq_getElem_cons h2] at hd
          have hrd : rd l (j : Int) = l[j] := by unfold rd; rw [Int.toNat_natCast, List.getD_eq_getElem?_getD, List.getElem?_eq_getElem h2]; rfl
          rw [← hrd] at hd
          obtain ⟨x, hx⟩ : ∃ x, rd l (j : Int) = x := ⟨_, rfl⟩
          rw [hx] at hd hbyte
          rw [Int.toNat_natCast] at hbyte
          have HD4 : Aside0 (crcList (crcByte d2 x) (l.drop (j + 1)) = S) := ⟨hd⟩
          obtain ⟨T, hT⟩ : ∃ T, crcByte d2 x = T := ⟨_, rfl⟩
          rw [hT] at HD4
          have HT : Aside0 (crcIter 8 (Go.bits .xor .u32 d2 (x % 4294967296)) = T) := ⟨hT⟩
          clear hd HD3 hrd hx hT
          go_wp2_with fail
          go_step3
          go_wp2_with fail
          go_step3
          go_wp2_with fail
          go_loopw [0, 9] (fun v0 v9 wr3 => ∃ (n : Nat) (d : Int), v0 = .int .u32 d ∧ v9 = .int .i64 (n : Int) ∧ wr3 = wr ∧ n ≤ 8 ∧ Aside0 (crcIter n d = T)) (fun _ v9 _ => (intOf v9).toNat)
          case atStart => exact ⟨8, _, rfl, rfl, rfl, Nat.le_refl _, HT⟩
          case round =>
            obtain ⟨n, d3, rfl, rfl, rfl, hn, HI⟩ := hrel
            cases n with
            | zero =>
              obtain rfl : d3 = T := HI.out
              have e1 : decide ((0 : Int) < ((0 : Nat) : Int)) = false := rfl
              clear e1
              go_wp2
              rw [Exit.noGoto_normal]
              go_wp2
              go_roundw
              case rel => exact ⟨j + 1, _, rfl, rfl, trivial, by omega, HD4⟩
              case measure => simp [intOf] <;> omega
            | succ n =>
              have HI2 : Aside0 (crcIter n (crcBit d3) = T) := ⟨HI.out⟩
              clear HI
              by_cases h3 : Go.bits .and .u32 d3 1 = 0
              · have e1 : (Go.bits .and .u32 d3 1 == 0) = true := beq_iff_eq.2 h3
                have HB : Aside0 (crcBit d3 = d3 / 2) := ⟨if_pos h3⟩
                clear h3
                go_wp2
                go_roundw
                case rel => exact ⟨n, _, rfl, rfl, trivial, by omega, ⟨by have := HI2.out; rw [HB.out] at this; exact this⟩⟩
                case measure => simp [intOf] <;> omega
              · have e1 : (Go.bits .and .u32 d3 1 == 0) = false := beq_eq_false_iff_ne.2 h3
                have HB : Aside0 (crcBit d3 = Go.bits .xor .u32 (d3 / 2) 3988292384) := ⟨if_neg h3⟩
                clear h3
                go_wp2
                go_roundw
                case rel => exact ⟨n, _, rfl, rfl, trivial, by omega, ⟨by have := HI2.out; rw [HB.out] at this; exact this⟩⟩
                case measure => simp [intOf] <;> omega
        · have d2b : decide ((j : Int) < (l.length : Int)) = false := decide_eq_false (by omega)
          obtain rfl : j = l.length := by omega
          have hd := HD3.out
          rw [List.drop_length] at hd
          obtain rfl : d2 = S := hd
          clear HD3 h2
          go_wp2
          go_roundw
          case rel => exact ⟨i + 1, _, rfl, rfl, trivial, by have := H1.out; omega, HD2⟩
          case measure => have := H1.out; simp [intOf] <;> omega
    · have d1 : decide ((i : Int) < (ps.length : Int)) = false := decide_eq_false (by omega)
      obtain rfl : i = ps.length := by omega
      have hd := HD.out
      rw [List.drop_length] at hd
      obtain rfl : d = R := hd
      clear HD h1
      go_wp2
      go_ret
      exact ⟨rfl, Drawn0.refl _⟩

def wire_Sum.f (l0 : List Int) : Option Int := if l0.length ≤ 140737488355328 then some (Go.bits .xor .u32 4294967295 (crcList 4294967295 l0)) else none

set_option maxHeartbeats 1000000 in
theorem wire_Sum.calls (A0 : Option Addr) (c0 : Nat) (l0 : List Int) (r1 : Int) (w : World) (hr0 : Kd.C (Kd.int .u8) w A0 l0.length l0) (hc0 : l0.length ≤ c0) (h : wire_Sum.f l0 = some r1) :
    Calls Try.prog 12 #[.slice A0 l0.length c0] w fun e w' => e = .returned (.int .u32 r1) ∧ Below w.heap.size w w' := by
  unfold wire_Sum.f at h
  by_cases hl : l0.length ≤ 140737488355328
  · rw [if_pos hl] at h
    have H := Aside0.mk (Option.some.inj h)
    have HR := Aside0.mk hr0
    have HL := Aside0.mk hl
    clear h hr0 hl
    go_enter Try.func12, Try.ntmps12
    go_wp2_with fail
    refine (add_calls (some ⟨w.heap.size, 0, none⟩) 1 [(A0, c0, l0)] 4294967295 _ (by simp) ?_).mono ?_
    · intro i p hip
      cases i with
      | zero =>
        obtain rfl : (A0, c0, l0) = p := by simpa using hip
        refine ⟨_, rfl, ?_, Kd.C_alloc HR.out _, HL.out⟩
        exact cell_of_one (alloc_new w (.cells #[.slice A0 l0.length c0] 22))
      | succ i => simp at hip
    · rintro e w' ⟨rfl, ⟨nd, rfl⟩⟩
      have hcp : crcParts 4294967295 [(A0, c0, l0)] = crcList 4294967295 l0 := rfl
      rw [hcp]
      have hsg : IntKind.u32.signed = false := rfl
      go_wp2
      go_ret
      exact ⟨by rw [← H.out]; rfl, pw_below_drewN ((Below.refl _ _).alloc (Nat.le_refl _) _) _⟩
  · rw [if_neg hl] at h
    cases h
end Go.Proofs.Ytecfoepcgammcaa.HandF
