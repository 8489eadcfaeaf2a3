/- Plain facts on rows of bits: a row's bit, the number that bits are, and the printed loop of take. -/
import Derived.Laws.BitsAllLaws
import Derived.Test.YtecpmglijgpknaaX27
namespace Go.Proofs.Ytecpmglijgpknaa.Math
set_option linter.unusedVariables false
set_option linter.unusedSimpArgs false
open Go.RowKit Go.Proofs.Ytecpmglijgpknaa.X
open Go.Proofs.YtecpmglijgpknaaW.PrintWords Go.Proofs.YtecpmglijgpknaaW.PrintLast Go.Proofs.YtecpmglijgpknaaW.PrintMore

/-- All are bytes. -/
def Bytes (l : List Int) : Prop := ∀ x ∈ l, 0 ≤ x ∧ x ≤ 255
theorem rd_byte {l : List Int} (h : Bytes l) (i : Int) : 0 ≤ rd l i ∧ rd l i ≤ 255 := by
  unfold rd
  rw [List.getD_eq_getElem?_getD]
  cases hi : l[i.toNat]? with
  | none => simp
  | some x => exact h x (List.mem_of_getElem? hi)

/-- Bit i of a row. -/
def bitN (l : List Int) (i : Nat) : Nat := (rd l ((i / 8 : Nat) : Int)).toNat / 2 ^ (7 - i % 8) % 2
theorem bitN_lt (l : List Int) (i : Nat) : bitN l i < 2 := Nat.mod_lt _ (by decide)

/-- The number that w bits are, from a place on. -/
def takeN (l : List Int) (p : Nat) : Nat → Nat
  | 0 => 0
  | w + 1 => 2 * takeN l p w + bitN l (p + w)
theorem takeN_lt (l : List Int) (p w : Nat) : takeN l p w < 2 ^ w := by
  induction w with
  | zero => simp [takeN]
  | succ w ih => have := bitN_lt l (p + w); rw [Nat.pow_succ]; simp only [takeN]; omega

theorem wrap_small {x : Int} (h0 : -9223372036854775808 ≤ x) (h1 : x ≤ 9223372036854775807) : wrap64 x = x := by unfold wrap64; omega

theorem byte_bit {l : List Int} (h : Bytes l) (i : Nat) : Go.bits .and .u8 (shr .u8 (rd l ((i / 8 : Nat) : Int)) ((7 - i % 8 : Nat) : Int)) 1 = (bitN l i : Int) := by
  obtain ⟨h0, h1⟩ := rd_byte h ((i / 8 : Nat) : Int)
  unfold shr bitN
  obtain ⟨x, hx⟩ := Int.eq_ofNat_of_zero_le h0
  rw [hx] at h1 ⊢
  rw [Int.toNat_natCast, Int.toNat_natCast, Nat.min_eq_left (by show _ ≤ 8; omega)]
  have e : ((x : Int) / 2 ^ (7 - i % 8)) = ((x / 2 ^ (7 - i % 8) : Nat) : Int) := by simp
  have hlt : x / 2 ^ (7 - i % 8) < 256 := Nat.lt_of_le_of_lt (Nat.div_le_self _ _) (by omega)
  rw [e, show (1 : Int) = ((1 : Nat) : Int) from rfl, u8_and_nat _ _ hlt (by decide), nat_mask1]

theorem shl_or (x b : Nat) (hx : x < 9223372036854775808) (hb : b < 2) : Go.bits .or .u64 (IntKind.u64.wrap ((x : Int) * 2)) (IntKind.u64.wrap (b : Int)) = ((2 * x + b : Nat) : Int) := by
  have e1 : IntKind.u64.wrap ((x : Int) * 2) = ((2 * x : Nat) : Int) := by rw [IntKind.wrap_u64]; omega
  have e2 : IntKind.u64.wrap (b : Int) = (b : Int) := by rw [IntKind.wrap_u64]; omega
  rw [e1, e2, u64_or_nat _ _ (by omega) (by omega), nat_join 1 _ _ (by simp) (by simpa using hb)]

theorem take_loop {l : List Int} (hb : Bytes l) (hl : l.length ≤ 140737488355328) (p W : Nat) (hW : W ≤ 64) (hp : p + W ≤ 8 * l.length) (d : Nat) :
    ∀ w, w + d = W → bits_take.l0 (d + 1) l (p : Int) (W : Int) (takeN l p w : Int) ((p + w : Nat) : Int) = some ((takeN l p W : Nat) : Int) := by
  induction d with
  | zero =>
    intro w hw
    obtain rfl : w = W := by omega
    unfold bits_take.l0
    rw [wrap_small (by omega) (by omega), if_neg (by omega)]
  | succ d ih =>
    intro w hw
    unfold bits_take.l0
    have hi : (Int.tdiv ((p + w : Nat) : Int) 8) = (((p + w) / 8 : Nat) : Int) := by rw [Int.tdiv_eq_ediv_of_nonneg (by omega)]; omega
    have hm : (7 - Int.tmod ((p + w : Nat) : Int) 8) = ((7 - (p + w) % 8 : Nat) : Int) := by rw [Int.tmod_eq_emod_of_nonneg (by omega)]; omega
    rw [wrap_small (x := (p : Int) + W) (by omega) (by omega), if_pos (by omega), hi, hm, wrap_small (x := (((p + w) / 8 : Nat) : Int)) (by omega) (by omega), wrap_small (x := ((7 - (p + w) % 8 : Nat) : Int)) (by omega) (by omega),
      if_pos (by omega), if_pos (by omega), if_pos (by omega), byte_bit hb]
    have hx := takeN_lt l p w
    have h63 : takeN l p w < 9223372036854775808 := Nat.lt_of_lt_of_le hx (by
      have := Nat.pow_le_pow_right (show 0 < 2 by decide) (show w ≤ 63 by omega)
      exact this)
    rw [shl_or _ _ h63 (bitN_lt _ _), wrap_small (by omega) (by omega)]
    have := ih (w + 1) (by omega)
    rw [show ((p + w : Nat) : Int) + 1 = ((p + (w + 1) : Nat) : Int) by omega]
    exact this

theorem take_some {l : List Int} (hb : Bytes l) (hl : l.length ≤ 140737488355328) (p W : Nat) (hW : W ≤ 64) (hp : p + W ≤ 8 * l.length) : bits_take.f (W + 1) l (p : Int) (W : Int) = some ((takeN l p W : Nat) : Int) := by
  have := take_loop hb hl p W hW hp W 0 (by omega)
  unfold bits_take.f
  exact this
end Go.Proofs.Ytecpmglijgpknaa.Math
