/- Binary trees, plain: which values they are, their normal form, split and sum. -/
import Derived.Test.YtlhaofbncoijfaaX0
namespace Go.Proofs.Ytlhaofbncoijfaa.Tree
set_option linter.unusedVariables false
set_option linter.unusedSimpArgs false
open Go.Proofs.Ytlhaofbncoijfaa.X

inductive T where
  | leaf (b : Bool)
  | node (a b : T)
namespace T
def toS : T → S24
  | leaf b => ⟨b, []⟩
  | node a b => ⟨false, [toS a, toS b]⟩
theorem toS_inj : ∀ {a b : T}, toS a = toS b → a = b
  | leaf x, leaf y, h => by simp only [toS, S24.mk.injEq] at h; rw [h.1]
  | leaf x, node c d, h => by simp [toS] at h
  | node a b, leaf y, h => by simp [toS] at h
  | node a b, node c d, h => by
    simp only [toS, S24.mk.injEq, List.cons.injEq, and_true, true_and] at h
    rw [toS_inj h.1, toS_inj h.2]
/-- The tree that a value is. -/
def ofS : S24 → Option T
  | ⟨b, l⟩ => match l with
    | [] => some (leaf b)
    | [x, y] => if b = true then none else match ofS x, ofS y with
      | some a, some c => some (node a c)
      | _, _ => none
    | _ => none
theorem of_toS : ∀ t : T, ofS (toS t) = some t
  | leaf b => by simp [toS, ofS]
  | node a b => by simp [toS, ofS, of_toS a, of_toS b]
theorem toS_of : ∀ (n : Nat) {s : S24} {t : T}, SizeOf.sizeOf s ≤ n → ofS s = some t → toS t = s
  | 0, ⟨b, l⟩, t, hn, h => by simp at hn
  | n + 1, ⟨b, l⟩, t, hn, h => by
    match l, hn, h with
    | [], _, h => simp [ofS] at h; rw [← h]; rfl
    | [_], _, h => simp [ofS] at h
    | _ :: _ :: _ :: _, _, h => simp [ofS] at h
    | [x, y], hn, h =>
      rw [ofS] at h
      simp at hn
      split at h
      · cases h
      · rename_i hb
        cases hx : ofS x with
        | none => simp [hx] at h
        | some a =>
          cases hy : ofS y with
          | none => simp [hx, hy] at h
          | some c =>
            simp only [hx, hy, Option.some.injEq] at h
            rw [← h, toS, toS_of n (by omega) hx, toS_of n (by omega) hy]
            have : b = false := by simpa using hb
            rw [this]
theorem ofS_eq {s : S24} {t : T} : ofS s = some t ↔ toS t = s := ⟨toS_of _ (Nat.le_refl _), fun h => by rw [← h]; exact of_toS t⟩

def isNone : T → Bool
  | leaf b => !b
  | _ => false
def isOne : T → Bool
  | leaf b => b
  | _ => false
def isLeaf : T → Bool
  | leaf _ => true
  | _ => false
/-- Are two trees one? -/
def eqb : T → T → Bool
  | leaf x, leaf y => x == y
  | node a b, node c d => eqb a c && eqb b d
  | _, _ => false
theorem eqb_iff : ∀ {a b : T}, eqb a b = true ↔ a = b
  | leaf x, leaf y => by simp [eqb]
  | leaf x, node c d => by simp [eqb]
  | node a b, leaf y => by simp [eqb]
  | node a b, node c d => by simp [eqb, eqb_iff (a := a), eqb_iff (a := b)]
def depth : T → Nat
  | leaf _ => 0
  | node a b => 1 + max (depth a) (depth b)
def count : T → Nat
  | leaf _ => 1
  | node a b => 1 + count a + count b
def join (a b : T) : T := if (a.isLeaf && b.isLeaf) && (a.isOne == b.isOne) then leaf a.isOne else node a b
def norm : T → T
  | leaf b => leaf b
  | node a b => join (norm a) (norm b)
def split : T → T × T
  | leaf b => if b then (node (leaf true) (leaf false), node (leaf false) (leaf true)) else (leaf false, leaf false)
  | node a b =>
    if a.isNone then (node (leaf false) (split b).1, node (leaf false) (split b).2)
    else if b.isNone then (node (split a).1 (leaf false), node (split a).2 (leaf false))
    else (node a (leaf false), node (leaf false) b)
def sum : T → T → T × Bool
  | leaf false, b => (b, true)
  | leaf true, leaf b => if b then (leaf false, false) else (leaf true, true)
  | leaf true, node _ _ => (leaf false, false)
  | node a b, leaf c => if c then (leaf false, false) else (node a b, true)
  | node a b, node c d => (join (sum a c).1 (sum b d).1, (sum a c).2 && (sum b d).2)
/-- A tree's text. -/
def text : T → List UInt8
  | leaf b => if b then [49] else [48]
  | node a b => [40] ++ text a ++ [44] ++ text b ++ [41]
end T
end Go.Proofs.Ytlhaofbncoijfaa.Tree
