/- Plain facts: what both Puts and both PutOwns come to. -/
import Derived.Test.YtecpmglijgpknaaSpecT
import Derived.Test.YtecpmglijgpknaaHandO
import Derived.Test.YtecpmglijgpknaaX12
import Derived.Test.YtecpmglijgpknaaX16
namespace Go.Proofs.Ytecpmglijgpknaa.Math
set_option linter.unusedVariables false
set_option linter.unusedSimpArgs false
open Go.RowKit Go.Proofs.Ytecpmglijgpknaa.X Go.Proofs.Ytecpmglijgpknaa.HandF Go.Proofs.Ytecpmglijgpknaa.Hand
open Go.Proofs.YtecpmglijgpknaaW.PrintWords Go.Proofs.YtecpmglijgpknaaW.PrintLast Go.Proofs.YtecpmglijgpknaaW.PrintMore

theorem size_loop : ∀ (f x : Nat) (c : Int), x < 2 ^ f → x < 18446744073709551616 → 0 ≤ c → c + f ≤ 1000 → pannierref01_size.l0 (f + 1) (x : Int) c = some (c + (Lib.bitLenAux f x : Nat))
  | 0, x, c, hx, hx2, h0, h1 => by
    have : x = 0 := by simpa using hx
    subst this
    unfold pannierref01_size.l0
    simp [Lib.bitLenAux]
  | f + 1, x, c, hx, hx2, h0, h1 => by
    unfold pannierref01_size.l0
    rw [Lib.bitLenAux]
    by_cases hz : x = 0
    · subst hz; simp
    · have hp := Nat.pow_succ 2 f
      have e1 : IntKind.u64.wrap (Int.tdiv (x : Int) 2) = ((x / 2 : Nat) : Int) := by
        rw [Int.tdiv_eq_ediv_of_nonneg (by omega), IntKind.wrap_u64]; omega
      have e2 : wrap64 (c + 1) = c + 1 := wrap_small (by omega) (by omega)
      have ih := size_loop f (x / 2) (c + 1) (by omega) (by omega) (by omega) (by omega)
      rw [if_pos (by omega), if_neg hz, e1, e2, ih]
      congr 1
      omega

theorem size_some {v : Int} (h0 : 0 ≤ v) (h1 : v < 18446744073709551616) : Ev (fun k => pannierref01_size.f k v) ((Lib.bitLen v.toNat : Nat) : Int) := by
  refine Ev.of (k := 65) (fun k => pannierref01_size.mono _ k) ?_
  obtain ⟨x, rfl⟩ := Int.eq_ofNat_of_zero_le h0
  have := size_loop 64 x 0 (by omega) (by omega) (by omega) (by omega)
  rw [Int.zero_add] at this
  exact this

/-- What Put tells. -/
def putRes (l : List Int) (n v w : Int) : List Int × Int × Int :=
  if rightB l n = true ∧ 0 ≤ w ∧ w ≤ 64 ∧ ((Lib.bitLen v.toNat : Nat) : Int) ≤ w then (((highs v w.toNat).foldl stepB (l, n)).1, ((highs v w.toNat).foldl stepB (l, n)).2, 0) else ([], 0, 2)

theorem put_res {l : List Int} {n v w : Int} (hb : Bytes l) (hl : l.length + 9 ≤ 140737488355328) (h0 : -9223372036854775808 ≤ n) (h1 : n ≤ 9223372036854775807) (v0 : 0 ≤ v) (v1 : v < 18446744073709551616) :
    bits_Put.f l n v w = some (putRes l n v w) := by
  unfold bits_Put.f putRes bits_Len64.f
  rw [right_some hb (by omega) h0 h1]
  simp only [Option.bind_some]
  cases hr : rightB l n with
  | false => simp
  | true =>
    obtain ⟨r0, r1, r2⟩ := rightB_iff.1 hr
    rw [if_pos rfl]
    by_cases c1 : w < 0
    · rw [if_pos c1, if_neg (by omega)]
    rw [if_neg c1]
    by_cases c2 : w > 64
    · rw [if_pos c2, if_neg (by omega)]
    rw [if_neg c2, if_pos (by omega)]
    simp only [Option.bind_some]
    by_cases c3 : ((Lib.bitLen v.toNat : Nat) : Int) > w
    · rw [if_pos c3, if_neg (by omega)]
    rw [if_neg c3, if_pos ⟨r0, r1, hl⟩, if_pos ⟨trivial, by omega, by omega, by omega⟩]

theorem refright_res {l : List Int} {n : Int} (hb : Bytes l) (hl : l.length ≤ 140737488355328) (h0 : -9223372036854775808 ≤ n) (h1 : n ≤ 9223372036854775807) : Ev (fun k => pannierref01_Right.f k l n) (rightB l n) :=
  Ev.of (fun k => pannierref01_Right.mono _ _ k) (refright_some hb hl h0 h1)

theorem refput_res {l : List Int} {n v w : Int} (hb : Bytes l) (hl : l.length + 9 ≤ 140737488355328) (h0 : -9223372036854775808 ≤ n) (h1 : n ≤ 9223372036854775807) (v0 : 0 ≤ v) (v1 : v < 18446744073709551616) :
    Ev (fun k => pannierref01_Put.f k l n v w) (putRes l n v w) := by
  obtain ⟨k1, hk1⟩ := refright_res (n := n) hb (by omega) h0 h1
  obtain ⟨k2, hk2⟩ := size_some v0 v1
  dsimp only at hk1 hk2
  refine ⟨max k1 k2, fun k hk => ?_⟩
  dsimp only
  unfold pannierref01_Put.f putRes pannierref01_put.f
  rw [hk1 k (by omega), hk2 k (by omega)]
  simp only [Option.bind_some]
  cases hr : rightB l n with
  | false => simp
  | true =>
    obtain ⟨r0, r1, r2⟩ := rightB_iff.1 hr
    rw [if_pos rfl]
    by_cases c1 : w < 0
    · rw [if_pos c1, if_neg (by omega)]
    rw [if_neg c1]
    by_cases c2 : w > 64
    · rw [if_pos c2, if_neg (by omega)]
    rw [if_neg c2]
    by_cases c3 : ((Lib.bitLen v.toNat : Nat) : Int) > w
    · rw [if_pos c3, if_neg (by omega)]
    rw [if_neg c3, if_pos ⟨r0, r1, hl, by omega, by omega, v0, v1⟩, if_pos ⟨rfl, by omega, by omega, by omega⟩]
    rfl

/-- What PutOwn tells. -/
def putOwnRes (l : List Int) (n v : Int) : List Int × Int × Int :=
  if rightB l n = true ∧ v ≤ 4611686018427387903 then ((ownBits (l, n) v).1, (ownBits (l, n) v).2, 0) else ([], 0, 2)

theorem putown_res {l : List Int} {n v : Int} (hb : Bytes l) (hl : l.length + 18 ≤ 140737488355328) (h0 : -9223372036854775808 ≤ n) (h1 : n ≤ 9223372036854775807) (v0 : 0 ≤ v) :
    bits_PutOwn.f l n v = some (putOwnRes l n v) := by
  unfold bits_PutOwn.f putOwnRes
  rw [right_some hb (by omega) h0 h1]
  simp only [Option.bind_some]
  cases hr : rightB l n with
  | false => simp
  | true =>
    obtain ⟨r0, r1, r2⟩ := rightB_iff.1 hr
    rw [if_pos rfl]
    by_cases c1 : v > 4611686018427387903
    · rw [if_pos c1, if_neg (by omega)]
    rw [if_neg c1, if_pos ⟨r0, v0, r1, hl⟩, if_pos ⟨rfl, by omega⟩]

theorem refputown_res {l : List Int} {n v : Int} (hb : Bytes l) (hl : l.length + 18 ≤ 140737488355328) (h0 : -9223372036854775808 ≤ n) (h1 : n ≤ 9223372036854775807) (v0 : 0 ≤ v) (v1 : v < 18446744073709551616) :
    Ev (fun k => pannierref01_PutOwn.f k l n v) (putOwnRes l n v) := by
  obtain ⟨k1, hk1⟩ := refright_res (n := n) hb (by omega) h0 h1
  by_cases hv : v ≤ 4611686018427387903
  · obtain ⟨k2, hk2⟩ := size_some (v := v + 1) (by omega) (by omega)
    dsimp only at hk1 hk2
    refine ⟨max k1 k2 + 1, fun k hk => ?_⟩
    obtain ⟨j, rfl⟩ : ∃ j, k = j + 1 := ⟨k - 1, by omega⟩
    dsimp only
    unfold pannierref01_PutOwn.f putOwnRes
    rw [hk1 (j + 1) (by omega)]
    simp only [Option.bind_some]
    cases hr : rightB l n with
    | false => simp [pannierref01_PutOwn.j0]
    | true =>
      obtain ⟨r0, r1, r2⟩ := rightB_iff.1 hr
      rw [if_pos rfl, decide_eq_false (by omega)]
      simp only [pannierref01_PutOwn.j0]
      have hw : IntKind.u64.wrap (v + 1) = v + 1 := by rw [IntKind.wrap_u64]; omega
      obtain ⟨kk, e1, e2⟩ := own_len v v0 hv
      rw [if_neg (by decide), hw, hk2 j (by omega), if_pos ⟨trivial, hv⟩]
      simp only [Option.bind_some]
      unfold ownBits
      rw [e1, show ((kk + 1 : Nat) : Int) - 1 = (kk : Int) by omega, wrap_small (by omega) (by omega), Nat.add_sub_cancel]
      unfold pannierref01_put.f
      rw [if_pos ⟨r0, r1, by omega, by omega, by omega, by decide, by decide⟩]
      simp only [Option.bind_some, Int.toNat_natCast]
      have hi := fold_inv (highs 0 kk) (l, n) r1
      rw [highs_length] at hi
      obtain ⟨i1, i2⟩ := hi
      dsimp only at i1 i2
      have hlen : ((highs 0 kk).foldl stepB (l, n)).1.length + 9 ≤ 140737488355328 := by omega
      rw [if_pos ⟨by omega, i1, hlen, by omega, by omega, by omega, by omega⟩]
      rfl
  · dsimp only at hk1
    refine ⟨k1 + 1, fun k hk => ?_⟩
    obtain ⟨j, rfl⟩ : ∃ j, k = j + 1 := ⟨k - 1, by omega⟩
    dsimp only
    unfold pannierref01_PutOwn.f putOwnRes
    rw [hk1 (j + 1) (by omega), if_neg (fun h => hv h.2), decide_eq_true (by omega)]
    simp only [Option.bind_some]
    cases rightB l n <;> simp [pannierref01_PutOwn.j0]
end Go.Proofs.Ytecpmglijgpknaa.Math
