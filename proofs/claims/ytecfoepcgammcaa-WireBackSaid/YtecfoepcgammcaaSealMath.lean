/- Plain facts: what a sealed record's bytes are, by the program and by the reference. -/
import Derived.Test.YtecfoepcgammcaaHandQ
import Derived.Test.YtecfoepcgammcaaTextMath
import Derived.Test.YtecfoepcgammcaaX19
import Derived.Test.YtecfoepcgammcaaX25
namespace Go.Proofs.Ytecfoepcgammcaa.Math
set_option linter.unusedVariables false
set_option linter.unusedSimpArgs false
open Go.RowKit Go.Proofs.Ytecfoepcgammcaa.X Go.Proofs.Ytecfoepcgammcaa.HandF
open Go.Proofs.YtecfoepcgammcaaW.PrintWords Go.Proofs.YtecfoepcgammcaaW.PrintLast Go.Proofs.YtecfoepcgammcaaW.PrintMore

theorem crcList_append (c : Int) (a b : List Int) : crcList c (a ++ b) = crcList (crcList c a) b := List.foldl_append
/-- A record's bytes, but for its sum. -/
def bodyOf (kind : Int) (s : ByteArray) : List Int := [kind] ++ numB s.size ++ bytesOf s
/-- A sealed record's bytes. -/
def sealOf (kind : Int) (s : ByteArray) : List Int := bodyOf kind s ++ sumBytes (Go.bits .xor .u32 4294967295 (crcList 4294967295 (bodyOf kind s)))

theorem bodyOf_length (kind : Int) (s : ByteArray) : (bodyOf kind s).length ≤ s.size + 10 ∧ s.size ≤ (bodyOf kind s).length := by
  unfold bodyOf
  have := numB_len s.size
  rw [List.length_append, List.length_append, bytesOf_length, List.length_singleton]
  omega

theorem seal_some (kind : Int) (s : ByteArray) (hs : s.size + 4096 ≤ 140737488355328) : wire_Seal.f kind s = some (strOfNums (sealOf kind s)) := by
  unfold wire_Seal.f
  rw [if_pos hs]
  unfold sealOf bodyOf
  rw [crcList_append 4294967295 ([kind] ++ numB s.size)]

theorem refseal_ev (kind : Int) (s : ByteArray) (hs : s.size + 4096 ≤ 140737488355328) : Ev (fun k => pannierref02_Seal.f k kind s) (strOfNums (sealOf kind s)) := by
  have hb := bodyOf_length kind s
  obtain ⟨S, h1, k0, h2⟩ := refsum_some (bodyOf kind s) (by omega)
  have hw : IntKind.u64.wrap (s.size : Int) = (s.size : Int) := by rw [IntKind.wrap_u64]; omega
  have hn9 := numB_len s.size
  have e1 : HandF.pannierref02_Number.f [kind] (s.size : Int) = some ([kind] ++ numB s.size) := by
    unfold HandF.pannierref02_Number.f
    rw [if_pos ⟨by omega, by omega, by simp⟩, Int.toNat_natCast]
  have e2 : pannierref02_Text.f [kind] s = some (bodyOf kind s) := by
    unfold pannierref02_Text.f
    rw [hw, e1, Option.bind_some, if_pos (by rw [List.length_append, List.length_singleton]; omega)]
    rfl
  refine ⟨k0, fun k hk => ?_⟩
  have h3 := h2 k hk
  dsimp only at h3 ⊢
  unfold wire_Sum.f at h1
  rw [if_pos (by omega)] at h1
  unfold pannierref02_Seal.f
  rw [e2, Option.bind_some, h3, Option.bind_some, Option.bind_some]
  rw [if_pos (by simp only [List.length_cons, List.length_nil]; omega)]
  obtain rfl := Option.some.inj h1
  rfl

theorem reftext_ev {l : List Int} (hb : Bytes l) (hl : l.length ≤ 140737488371712) (p most : Int) : ∃ r, txt l most (takeNum l p) = some r ∧ Ev (fun k => pannierref02_TakeText.f k l p most) r := by
  obtain ⟨r, hr⟩ := txt_some hb hl p most
  obtain ⟨k0, h0⟩ := reftake_ev hb hl p
  refine ⟨r, hr, k0, fun k hk => ?_⟩
  have h1 := h0 k hk
  dsimp only at h1 ⊢
  unfold pannierref02_TakeText.f
  rw [h1, Option.bind_some]
  exact hr

theorem bytesOf_bytes' (s : ByteArray) : Bytes (bytesOf s) := by
  intro x hx
  unfold bytesOf at hx
  obtain ⟨b, _, rfl⟩ := List.mem_map.1 hx
  have := b.toNat_lt
  omega

/-- What the reference reads of a record that begins at a place. -/
def refOpenOf (s : ByteArray) (p : Nat) (most : Int) : Option (Int × ByteArray × Int × Int) :=
  (txt (bytesOf (s.extract (p + 1) s.size)) most (takeNum (bytesOf (s.extract (p + 1) s.size)) 0)).bind fun t =>
    if t.2.2 = 0 then
      (if (s.size : Int) - p - 1 - t.2.1 < 4 then some (0, ⟨#[]⟩, 0, 20)
      else if strOfNums (sealOf (bt s p) t.1) = s.extract p (p + 1 + t.2.1.toNat + 4) then some (bt s p, t.1, p + 1 + t.2.1 + 4, 0)
      else some (0, ⟨#[]⟩, 0, 21))
    else some (0, ⟨#[]⟩, 0, 20)
end Go.Proofs.Ytecfoepcgammcaa.Math
