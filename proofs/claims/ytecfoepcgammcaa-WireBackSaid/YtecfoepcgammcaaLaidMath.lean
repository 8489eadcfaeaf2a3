/- Plain facts: numbers, texts and records that were laid behind bytes are taken. -/
import Derived.Test.YtecfoepcgammcaaOpenMath
namespace Go.Proofs.Ytecfoepcgammcaa.Math
set_option linter.unusedVariables false
set_option linter.unusedSimpArgs false
open Go.RowKit Go.Proofs.Ytecfoepcgammcaa.X Go.Proofs.Ytecfoepcgammcaa.HandF
open Go.Proofs.YtecfoepcgammcaaW.PrintWords Go.Proofs.YtecfoepcgammcaaW.PrintLast Go.Proofs.YtecfoepcgammcaaW.PrintMore

theorem numB_size (n : Nat) : (numB n).length = ex n + 1 := by unfold numB; rw [be_length]

theorem numAt_pre {a c : List Int} {n : Nat} (ha : Bytes a) (hc : Bytes c) (hn : n < 18446744073709551616) : numAt (a ++ numB n ++ c) a.length = some (n, a.length + (ex n + 1)) := by
  have hz := numB_size n
  have := numAt_back (l := a ++ numB n ++ c) ((ha.append (numB_bytes n)).append hc) (p := a.length) hn (by simp only [List.length_append]; omega) (by
    rw [List.append_assoc, List.drop_left, List.take_left' hz])
  rw [this]
  congr 2
  omega

theorem textAt_pre {a c : List Int} {s : ByteArray} (ha : Bytes a) (hc : Bytes c) (hn : s.size < 18446744073709551616) {most : Int} (hm : (s.size : Int) ≤ most) :
    textAt (a ++ numB s.size ++ bytesOf s ++ c) a.length most = some (s, a.length + (ex s.size + 1) + s.size) := by
  unfold textAt
  have h1 := numAt_pre (a := a) (c := bytesOf s ++ c) ha ((bytesOf_bytes' s).append hc) hn
  rw [← List.append_assoc] at h1
  rw [h1, Option.bind_some]
  have hz := numB_size s.size
  have hb := bytesOf_length s
  dsimp only
  rw [if_neg (by simp only [List.length_append]; omega)]
  congr 2
  have e1 : (a ++ numB s.size ++ bytesOf s ++ c).take (a.length + (ex s.size + 1) + s.size) = a ++ numB s.size ++ bytesOf s := List.take_left' (by simp only [List.length_append]; omega)
  have e2 : (a ++ numB s.size ++ bytesOf s).drop (a.length + (ex s.size + 1)) = bytesOf s := List.drop_left' (by simp only [List.length_append]; omega)
  rw [e1, e2, str_bytes]

theorem open_pre {a : List Int} {kind : Int} {s : ByteArray} (ha : Bytes a) (hk : 0 ≤ kind ∧ kind ≤ 255) (hl : (a ++ sealOf kind s).length ≤ 140737488371712) (hls : s.size ≤ 1048576) :
    wire_Open.f (strOfNums (a ++ sealOf kind s)) (a.length : Int) (s.size : Int) = some (kind, s, ((a ++ sealOf kind s).length : Int), 0) := by
  obtain ⟨Z, hZ⟩ : ∃ Z, strOfNums (a ++ sealOf kind s) = Z := ⟨_, rfl⟩
  have hbs : Bytes (bodyOf kind s) := by
    unfold bodyOf
    exact ((Bytes.cons hk (fun _ h => by cases h)).append (numB_bytes _)).append (bytesOf_bytes' _)
  obtain ⟨C, hC⟩ : ∃ C, sumBytes (Go.bits .xor .u32 4294967295 (crcList 4294967295 (bodyOf kind s))) = C := ⟨_, rfl⟩
  have hC4 : C.length = 4 := by rw [← hC]; rfl
  have hCb : Bytes C := by rw [← hC]; exact sum_bytes _
  have hse : sealOf kind s = bodyOf kind s ++ C := by rw [← hC]; rfl
  have hsb : Bytes (sealOf kind s) := by rw [hse]; exact hbs.append hCb
  have hbZ : bytesOf Z = a ++ sealOf kind s := by rw [← hZ]; exact bytes_str (ha.append hsb)
  have hZs : Z.size = (a ++ sealOf kind s).length := by rw [← hZ, strOfNums_size]
  have hnl := numB_size s.size
  have hbl := bytesOf_length s
  have hbo : (bodyOf kind s).length = 1 + (ex s.size + 1) + s.size := by
    unfold bodyOf; simp only [List.length_append, List.length_singleton]; omega
  have hsl : (sealOf kind s).length = 1 + (ex s.size + 1) + s.size + 4 := by rw [hse, List.length_append]; omega
  rw [List.length_append] at hl hZs
  rw [hZ]
  unfold wire_Open.f
  have hn9 := numB_len s.size
  rw [if_pos ⟨by omega, by rw [Int.toNat_natCast]; omega⟩, if_pos (by omega), Int.toNat_natCast]
  rw [(open_same Z (by omega) a.length (by omega) (s.size : Int) (by omega)).1]
  unfold refOpenOf
  have e1 : bytesOf (Z.extract (a.length + 1) Z.size) = [] ++ numB s.size ++ bytesOf s ++ C := by
    rw [extract_bytes, List.take_of_length_le (by rw [bytesOf_length]; omega), hbZ, hse]
    unfold bodyOf
    rw [List.drop_append, Nat.add_comm a.length 1]
    rw [List.drop_eq_nil_of_le (by omega), show 1 + a.length - a.length = 1 by omega]
    rfl
  rw [e1]
  have hl2 : ([] ++ numB s.size ++ bytesOf s ++ C).length = ex s.size + 1 + s.size + 4 := by simp only [List.length_append, List.length_nil]; omega
  have t2 := txt_is (l := [] ++ numB s.size ++ bytesOf s ++ C) (((Bytes.append (fun _ h => by cases h) (numB_bytes _)).append (bytesOf_bytes' _)).append hCb) (by omega) (p := 0) (by omega) (most := (s.size : Int)) (by omega)
  rw [show ((0 : Nat) : Int) = 0 from rfl] at t2
  have t3 := textAt_pre (a := []) (c := C) (s := s) (fun _ h => by cases h) hCb (by omega) (most := (s.size : Int)) (Int.le_refl _)
  rw [List.length_nil] at t3
  rw [t2, t3, Option.bind_some]
  obtain ⟨U, hU⟩ : ∃ U, textRes (some (s, 0 + (ex s.size + 1) + s.size)) = U := ⟨_, rfl⟩
  have hU1 : U.1 = s := by rw [← hU]; rfl
  have hU2 : U.2.1 = ((0 + (ex s.size + 1) + s.size : Nat) : Int) := by rw [← hU]; rfl
  have hU3 : U.2.2 = 0 := by rw [← hU]; rfl
  rw [hU, if_pos hU3, hU2, hU1]
  have c4 : ¬ ((Z.size : Int) - (a.length : Int) - 1 - ((0 + (ex s.size + 1) + s.size : Nat) : Int) < 4) := by omega
  rw [if_neg c4, Int.toNat_natCast]
  have hbt : bt Z (a.length : Int) = kind := by
    rw [← rd_bytesOf, hbZ, hse]
    unfold rd bodyOf
    rw [Int.toNat_natCast, List.getD_eq_getElem?_getD, List.getElem?_append_right (Nat.le_refl _), Nat.sub_self]
    rfl
  have e5 : Z.extract a.length (a.length + 1 + (0 + (ex s.size + 1) + s.size) + 4) = strOfNums (sealOf kind s) := by
    rw [← str_bytes (Z.extract a.length _), extract_bytes, hbZ, List.take_of_length_le (by rw [List.length_append]; omega), List.drop_left]
  rw [hbt, if_pos e5.symm]
  congr 4
  rw [List.length_append]
  omega
end Go.Proofs.Ytecfoepcgammcaa.Math
