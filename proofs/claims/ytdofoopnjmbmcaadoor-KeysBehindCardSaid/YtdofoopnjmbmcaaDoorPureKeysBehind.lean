/- The plain law of KeysBehind. -/
import Derived.Test.YtdofoopnjmbmcaaDoorX5
import Derived.Test.YtdofoopnjmbmcaaDoorStandMath
namespace Go.Proofs.YtdofoopnjmbmcaaDoor.Math
set_option linter.unusedVariables false
set_option linter.unusedSimpArgs false
open Go.RowKit Go.Proofs.YtdofoopnjmbmcaaDoor.X Go.Proofs.YtdofoopnjmbmcaaDoor.HandF
open Go.Proofs.YtdofoopnjmbmcaaDoorW.PrintWords Go.Proofs.YtdofoopnjmbmcaaDoorW.PrintLast Go.Proofs.YtdofoopnjmbmcaaDoorW.PrintMore

/-- What stands behind where n bytes are left to be looked at. -/
def behindN (s : ByteArray) (n : Nat) : ByteArray × Bool :=
  match stripN (bytesOf s) n with
  | 0 => (⟨#[]⟩, false)
  | m + 1 => (strOfNums (((bytesOf s).take (m + 1)).set m ((rd (bytesOf s) (m : Int) + 1) % 256)), true)

theorem str_bytes (s : ByteArray) : strOfNums (bytesOf s) = s := by
  refine ByteArray.ext (Array.toList_inj.1 ?_)
  rw [strOfNums_data]
  unfold bytesOf
  rw [List.map_map]
  conv => rhs; rw [← List.map_id s.data.toList]
  refine List.map_congr_left fun x _ => ?_
  show UInt8.ofNat ((x.toNat : Int)).toNat = x
  rw [Int.toNat_natCast]
  exact UInt8.ofNat_toNat
theorem extract_bytes (s : ByteArray) (a b : Nat) : bytesOf (s.extract a b) = ((bytesOf s).take b).drop a := by
  unfold bytesOf
  rw [ByteArray.data_extract, Array.toList_extract, List.extract_eq_take_drop, List.map_take, List.map_drop, List.drop_take]
theorem str_append (a b : List Int) : strOfNums (a ++ b) = strOfNums a ++ strOfNums b := by
  refine ByteArray.ext (Array.toList_inj.1 ?_)
  rw [strOfNums_data, ByteArray.data_append, Array.toList_append, strOfNums_data, strOfNums_data, List.map_append]

theorem behind_loop (s : ByteArray) (hs : s.size ≤ 140737488355328) : ∀ n, n ≤ s.size → pannierref03_Behind.l0 (n + 1) s (n : Int) = some (behindN s n)
  | 0, _ => by
    rw [pannierref03_Behind.l0, if_neg (by decide), if_pos (by decide)]
    rfl
  | n + 1, hn => by
    have e1 : wrap64 (((n + 1 : Nat) : Int) - 1) = (n : Int) := by rw [wrap_small (by omega) (by omega)]; omega
    have ih := behind_loop s hs n (by omega)
    have hsz : (s.extract 0 n).size = n := by rw [ByteArray.size_extract]; omega
    rw [pannierref03_Behind.l0, if_pos (by omega), e1, if_pos (Int.natCast_nonneg n), if_pos (by omega)]
    unfold behindN
    rw [stripN, rd_bytesOf]
    by_cases c : bt s (n : Int) = 255
    · rw [if_pos c, if_pos c, ih]
      rfl
    · rw [if_neg c, if_neg c, if_neg (by omega), if_pos (by omega), Option.bind_some, Int.toNat_natCast, hsz, strOfNums_size, if_pos (by simp only [List.length_cons, List.length_nil]; omega)]
      dsimp only
      congr 2
      have hlt : n < (bytesOf s).length := by rw [bytesOf_length]; omega
      have e2 : ((bytesOf s).take (n + 1)).set n ((rd (bytesOf s) (n : Int) + 1) % 256) = (bytesOf s).take n ++ [(bt s (n : Int) + 1) % 256] := by
        rw [rd_bytesOf, List.take_succ_eq_append_getElem hlt, List.set_append_right _ _ (by rw [List.length_take]; omega)]
        congr 1
        rw [List.length_take, Nat.min_eq_left (by omega), Nat.sub_self]
        rfl
      rw [e2, str_append]
      congr 1
      rw [← str_bytes (s.extract 0 n), extract_bytes, List.drop_zero]

theorem KeysBehind_small (s : ByteArray) (hs : s.size ≤ 140737488351232) : ∃ k, pannierlaw03_KeysBehind.f k s = some true := by
  refine ⟨s.size + 1, ?_⟩
  unfold pannierlaw03_KeysBehind.f pannierref03_Behind.f keys_Behind.f
  rw [shown_some, Option.bind_some, if_pos hs, Option.bind_some, behind_loop s (by omega) s.size (Nat.le_refl _), Option.bind_some, if_pos rfl]
  have e : behindN s s.size = behindS s := rfl
  rw [e, if_pos rfl, beq_self_eq_true]

theorem behind_walk (s : ByteArray) (w : World) (hs : s.size ≤ 140737488351232) : Calls Tryd.prog 5 #[.string s] w fun e w' => e = .returned (.bool true) ∧ Below w.heap.size w w' := by
  obtain ⟨k, h⟩ := KeysBehind_small s hs
  exact pannierlaw03_KeysBehind.calls k s true w h
end Go.Proofs.YtdofoopnjmbmcaaDoor.Math
