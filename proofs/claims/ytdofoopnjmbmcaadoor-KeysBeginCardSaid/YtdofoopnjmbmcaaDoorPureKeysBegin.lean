/- The plain law of KeysBegin. -/
import Derived.Test.YtdofoopnjmbmcaaDoorX6
import Derived.Test.YtdofoopnjmbmcaaDoorKeyMath
namespace Go.Proofs.YtdofoopnjmbmcaaDoor.Math
set_option linter.unusedVariables false
set_option linter.unusedSimpArgs false
open Go.RowKit Go.Proofs.YtdofoopnjmbmcaaDoor.X Go.Proofs.YtdofoopnjmbmcaaDoor.HandF
open Go.Proofs.YtdofoopnjmbmcaaDoorW.PrintWords Go.Proofs.YtdofoopnjmbmcaaDoorW.PrintLast Go.Proofs.YtdofoopnjmbmcaaDoorW.PrintMore

theorem KeysBegin (l : List S41) (n : Int) : ∃ k, pannierlaw03_KeysBegin.f k l n = some true := by
  refine ⟨1, ?_⟩
  unfold pannierlaw03_KeysBegin.f
  rw [shown_some, Option.bind_some]
  cases hr : rightL l with
  | false =>
    rw [lay_wrong hr, Option.bind_some, if_neg (by decide), pannierlaw03_KeysBegin.j0, if_pos rfl]
  | true =>
    rw [lay_right hr, Option.bind_some, if_pos rfl]
    by_cases c1 : n < 1
    · rw [if_pos c1, pannierlaw03_KeysBegin.j0, if_pos rfl]
    rw [if_neg c1]
    by_cases c2 : n > (l.length : Int)
    · rw [decide_eq_true c2, pannierlaw03_KeysBegin.j0, if_pos rfl]
    rw [decide_eq_false c2, pannierlaw03_KeysBegin.j0, if_neg (by decide), if_pos (by omega), if_pos (by omega)]
    obtain ⟨m, rfl⟩ := Int.eq_ofNat_of_zero_le (show 0 ≤ n by omega)
    rw [Int.toNat_natCast]
    obtain ⟨ha, h1, h8⟩ := rightL_parts hr
    have hrt : rightL (l.take m) = true := rightL_mk (List.all_eq_true.2 fun x hx => List.all_eq_true.1 ha x (List.mem_of_mem_take hx)) (by rw [List.length_take]; omega) (by rw [List.length_take]; omega)
    rw [lay_right hrt, Option.bind_some]
    have hlay : layL l = layL (l.take m) ++ layL (l.drop m) := by rw [← layL_append, List.take_append_drop]
    obtain ⟨x, r, hx, hx2⟩ := lay_head (l := l.take m) (by rw [List.length_take]; omega)
    have hne : ∃ i, i < (layL (l.take m)).length ∧ rd (layL (l.take m)) (i : Int) ≠ 255 := by
      refine ⟨0, by rw [hx]; simp, ?_⟩
      rw [hx]
      show x ≠ 255
      omega
    obtain ⟨u, hu1, hu2⟩ := behind_less (layL_bytes (l.take m)) (layL (l.drop m)) hne
    rw [← hlay] at hu2
    have hlen := laid_length (rightL_parts hrt).1
    have hlt := (rightL_parts hrt).2.2
    have hsz : (strOfNums (layL (l.take m))).size ≤ 140737488351232 := by
      rw [strOfNums_size]
      unfold layL
      omega
    have hbe : keys_Behind.f (strOfNums (layL (l.take m))) = some (u, true) := by
      unfold keys_Behind.f
      rw [if_pos hsz, hu1]
    dsimp only
    rw [hbe, Option.bind_some, if_pos rfl, if_pos rfl, if_pos rfl]
    have hs1 : ((strOfNums (layL (l.take m))).size : Int) ≤ ((strOfNums (layL l)).size : Int) := by
      rw [strOfNums_size, strOfNums_size, hlay, List.length_append]; omega
    have hs2 : (0 : Int) ≤ ((strOfNums (layL (l.take m))).size : Int) := by omega
    have hs3 : (strOfNums (layL l)).extract 0 (strOfNums (layL (l.take m))).size = strOfNums (layL (l.take m)) := by
      refine ByteArray.ext (Array.toList_inj.1 ?_)
      rw [ByteArray.data_extract, Array.toList_extract, List.extract_eq_take_drop, strOfNums_data, strOfNums_data, strOfNums_size, hlay, List.map_append, List.drop_zero, Nat.sub_zero, List.take_left' (by rw [List.length_map])]
    rw [if_pos hs1, if_pos hs2, Int.toNat_natCast, hs3, if_pos rfl, hu2]

theorem begin_walk (A0 : Option Addr) (c0 : Nat) (l : List S41) (n : Int) (w : World) (h0 : Kd.C k41 w A0 l.length l) (g0 : l.length ≤ c0) :
    Calls Tryd.prog 6 #[.slice A0 l.length c0, .int .i64 n] w fun e w' => e = .returned (.bool true) ∧ Below w.heap.size w w' := by
  obtain ⟨k, h⟩ := KeysBegin l n
  exact pannierlaw03_KeysBegin.calls k A0 c0 l n true w h0 g0 h
end Go.Proofs.YtdofoopnjmbmcaaDoor.Math
