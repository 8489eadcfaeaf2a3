/-
  NARROWER THAN 'FOR EVERY INPUT', by the rows' own cells (each row's printed sentence says how): IdNorms: loops · IdWhole: loops · IdThree: loops · IdSums: loops · IdSplits: loops · IdTexts: loops · IdBits: loops · IdBack: loops.
  DERIVED. THE GIVEN ROWS OF THIS SEAT. 9 by the template 'for every input the law returns true; each argument reads behind the call as it read before'; 0 by the template 'total and deterministic' (their statements: YtlhaofbncoijfaaTotals.lean).
  GIVEN WITH THE SEED: the statements are not yours to turn. If you find one false, say at which input.
  Laid BY PROGRAM, IN A SANDBOX (cutbox-rows.mjs): the forced cells as the released guide's own fill.sh prints them over the translation 9b8d5452e5c3e7b3… (all of the seat's roots in one cut). By AI agents, Wed Nov 11 2026. No macro, syntax, notation, axiom, sorry.
-/
import Derived.Test.YtlhaofbncoijfaaChecked
import GoSem.Claim
import GoSem.ClaimJoined
import GoSem.ClaimMapViews
import Derived.JoinedTies
import Derived.KernelRfl
namespace Go.Proofs.Ytlhaofbncoijfaa
/- THE CELL 'sum', in the pinned program and in every row, IS THE sha256 OF THE DUMP (.gsa) THAT YtlhaofbncoijfaaProg.lean LOADS. Nothing in Lean hashes anything: it is a label: what it is worth is what the hold of that sum in a sandbox is worth. -/
noncomputable def Try.pinned : Pinned := { name := "ytlhaofbncoijfaa", sum := "9b8d5452e5c3e7b3389cb0acdeae9331229529d5bf6ae77d9f63e2642827fae6", checked := Try.checked }
namespace Rows
def none {H : Type} : Left H := { results := [], args := [] }

/-- 'pannierlaw04.IdNorms': WHATEVER THE INPUT: true; the input reads as it did. -/
def idNormsSpec : ChangeSpec := { name := "idNorms", fn := fun _ => fun
  | [d] => { results := [.lit (.bool true)], args := [d] }
  | _ => none }
def idNormsRow : OpenClaim := { program := "ytlhaofbncoijfaa", sum := "9b8d5452e5c3e7b3389cb0acdeae9331229529d5bf6ae77d9f63e2642827fae6", func := "pannier/pannierlaw04.IdNorms", spec := "idNorms", inPlace := ["internal/abi.NoEscape"], unfollowed := true, recurses := true, loops := true, apart := false }
def IdNormsSaid : Prop := idNormsRow.holds Try.pinned (OpenSpec.ofChange idNormsSpec)

/-- ITS FALSE NEIGHBOUR: 'it returns false'. Refute it at one input. -/
def idNormsWrong : ChangeSpec := { name := "idNorms", fn := fun _ => fun
  | [d] => { results := [.lit (.bool false)], args := [d] }
  | _ => none }
def IdNormsWrongFalsely : Prop := idNormsRow.holds Try.pinned (OpenSpec.ofChange idNormsWrong)

/-- 'pannierlaw04.IdWhole': WHATEVER THE INPUT: true; the input reads as it did. -/
def idWholeSpec : ChangeSpec := { name := "idWhole", fn := fun _ => fun
  | [d] => { results := [.lit (.bool true)], args := [d] }
  | _ => none }
def idWholeRow : OpenClaim := { program := "ytlhaofbncoijfaa", sum := "9b8d5452e5c3e7b3389cb0acdeae9331229529d5bf6ae77d9f63e2642827fae6", func := "pannier/pannierlaw04.IdWhole", spec := "idWhole", inPlace := ["internal/abi.NoEscape"], unfollowed := true, recurses := true, loops := true, apart := false }
def IdWholeSaid : Prop := idWholeRow.holds Try.pinned (OpenSpec.ofChange idWholeSpec)

/-- ITS FALSE NEIGHBOUR: 'it returns false'. Refute it at one input. -/
def idWholeWrong : ChangeSpec := { name := "idWhole", fn := fun _ => fun
  | [d] => { results := [.lit (.bool false)], args := [d] }
  | _ => none }
def IdWholeWrongFalsely : Prop := idWholeRow.holds Try.pinned (OpenSpec.ofChange idWholeWrong)

/-- 'pannierlaw04.IdForks': WHATEVER THE INPUT: true; the input reads as it did. -/
def idForksSpec : ChangeSpec := { name := "idForks", fn := fun _ => fun
  | [d] => { results := [.lit (.bool true)], args := [d] }
  | _ => none }
def idForksRow : OpenClaim := { program := "ytlhaofbncoijfaa", sum := "9b8d5452e5c3e7b3389cb0acdeae9331229529d5bf6ae77d9f63e2642827fae6", func := "pannier/pannierlaw04.IdForks", spec := "idForks", inPlace := ["internal/abi.NoEscape"], unfollowed := true, recurses := true, apart := false }
def IdForksSaid : Prop := idForksRow.holds Try.pinned (OpenSpec.ofChange idForksSpec)

/-- ITS FALSE NEIGHBOUR: 'it returns false'. Refute it at one input. -/
def idForksWrong : ChangeSpec := { name := "idForks", fn := fun _ => fun
  | [d] => { results := [.lit (.bool false)], args := [d] }
  | _ => none }
def IdForksWrongFalsely : Prop := idForksRow.holds Try.pinned (OpenSpec.ofChange idForksWrong)

/-- 'pannierlaw04.IdThree': WHATEVER THE INPUT: true; the input reads as it did. -/
def idThreeSpec : ChangeSpec := { name := "idThree", fn := fun _ => fun
  | [d1, d2, d3] => { results := [.lit (.bool true)], args := [d1, d2, d3] }
  | _ => none }
def idThreeRow : OpenClaim := { program := "ytlhaofbncoijfaa", sum := "9b8d5452e5c3e7b3389cb0acdeae9331229529d5bf6ae77d9f63e2642827fae6", func := "pannier/pannierlaw04.IdThree", spec := "idThree", inPlace := ["internal/abi.NoEscape"], unfollowed := true, recurses := true, loops := true, apart := false }
def IdThreeSaid : Prop := idThreeRow.holds Try.pinned (OpenSpec.ofChange idThreeSpec)

/-- ITS FALSE NEIGHBOUR: 'it returns false'. Refute it at one input. -/
def idThreeWrong : ChangeSpec := { name := "idThree", fn := fun _ => fun
  | [d1, d2, d3] => { results := [.lit (.bool false)], args := [d1, d2, d3] }
  | _ => none }
def IdThreeWrongFalsely : Prop := idThreeRow.holds Try.pinned (OpenSpec.ofChange idThreeWrong)

/-- 'pannierlaw04.IdSums': WHATEVER THE INPUT: true; the input reads as it did. -/
def idSumsSpec : ChangeSpec := { name := "idSums", fn := fun _ => fun
  | [d1, d2] => { results := [.lit (.bool true)], args := [d1, d2] }
  | _ => none }
def idSumsRow : OpenClaim := { program := "ytlhaofbncoijfaa", sum := "9b8d5452e5c3e7b3389cb0acdeae9331229529d5bf6ae77d9f63e2642827fae6", func := "pannier/pannierlaw04.IdSums", spec := "idSums", inPlace := ["internal/abi.NoEscape"], unfollowed := true, recurses := true, loops := true, apart := false }
def IdSumsSaid : Prop := idSumsRow.holds Try.pinned (OpenSpec.ofChange idSumsSpec)

/-- ITS FALSE NEIGHBOUR: 'it returns false'. Refute it at one input. -/
def idSumsWrong : ChangeSpec := { name := "idSums", fn := fun _ => fun
  | [d1, d2] => { results := [.lit (.bool false)], args := [d1, d2] }
  | _ => none }
def IdSumsWrongFalsely : Prop := idSumsRow.holds Try.pinned (OpenSpec.ofChange idSumsWrong)

/-- 'pannierlaw04.IdSplits': WHATEVER THE INPUT: true; the input reads as it did. -/
def idSplitsSpec : ChangeSpec := { name := "idSplits", fn := fun _ => fun
  | [d] => { results := [.lit (.bool true)], args := [d] }
  | _ => none }
def idSplitsRow : OpenClaim := { program := "ytlhaofbncoijfaa", sum := "9b8d5452e5c3e7b3389cb0acdeae9331229529d5bf6ae77d9f63e2642827fae6", func := "pannier/pannierlaw04.IdSplits", spec := "idSplits", inPlace := ["internal/abi.NoEscape"], unfollowed := true, recurses := true, loops := true, apart := false }
def IdSplitsSaid : Prop := idSplitsRow.holds Try.pinned (OpenSpec.ofChange idSplitsSpec)

/-- ITS FALSE NEIGHBOUR: 'it returns false'. Refute it at one input. -/
def idSplitsWrong : ChangeSpec := { name := "idSplits", fn := fun _ => fun
  | [d] => { results := [.lit (.bool false)], args := [d] }
  | _ => none }
def IdSplitsWrongFalsely : Prop := idSplitsRow.holds Try.pinned (OpenSpec.ofChange idSplitsWrong)

/-- 'pannierlaw04.IdTexts': WHATEVER THE INPUT: true; the input reads as it did. -/
def idTextsSpec : ChangeSpec := { name := "idTexts", fn := fun _ => fun
  | [d1, d2] => { results := [.lit (.bool true)], args := [d1, d2] }
  | _ => none }
def idTextsRow : OpenClaim := { program := "ytlhaofbncoijfaa", sum := "9b8d5452e5c3e7b3389cb0acdeae9331229529d5bf6ae77d9f63e2642827fae6", func := "pannier/pannierlaw04.IdTexts", spec := "idTexts", inPlace := ["internal/abi.NoEscape"], unfollowed := true, recurses := true, loops := true, apart := false }
def IdTextsSaid : Prop := idTextsRow.holds Try.pinned (OpenSpec.ofChange idTextsSpec)

/-- ITS FALSE NEIGHBOUR: 'it returns false'. Refute it at one input. -/
def idTextsWrong : ChangeSpec := { name := "idTexts", fn := fun _ => fun
  | [d1, d2] => { results := [.lit (.bool false)], args := [d1, d2] }
  | _ => none }
def IdTextsWrongFalsely : Prop := idTextsRow.holds Try.pinned (OpenSpec.ofChange idTextsWrong)

/-- 'pannierlaw04.IdBits': WHATEVER THE INPUT: true; the input reads as it did. -/
def idBitsSpec : ChangeSpec := { name := "idBits", fn := fun _ => fun
  | [d1, d2, d3, d4] => { results := [.lit (.bool true)], args := [d1, d2, d3, d4] }
  | _ => none }
def idBitsRow : OpenClaim := { program := "ytlhaofbncoijfaa", sum := "9b8d5452e5c3e7b3389cb0acdeae9331229529d5bf6ae77d9f63e2642827fae6", func := "pannier/pannierlaw04.IdBits", spec := "idBits", inPlace := ["internal/abi.NoEscape"], unfollowed := true, recurses := true, loops := true, apart := false }
def IdBitsSaid : Prop := idBitsRow.holds Try.pinned (OpenSpec.ofChange idBitsSpec)

/-- ITS FALSE NEIGHBOUR: 'it returns false'. Refute it at one input. -/
def idBitsWrong : ChangeSpec := { name := "idBits", fn := fun _ => fun
  | [d1, d2, d3, d4] => { results := [.lit (.bool false)], args := [d1, d2, d3, d4] }
  | _ => none }
def IdBitsWrongFalsely : Prop := idBitsRow.holds Try.pinned (OpenSpec.ofChange idBitsWrong)

/-- 'pannierlaw04.IdBack': WHATEVER THE INPUT: true; the input reads as it did. -/
def idBackSpec : ChangeSpec := { name := "idBack", fn := fun _ => fun
  | [d1, d2] => { results := [.lit (.bool true)], args := [d1, d2] }
  | _ => none }
def idBackRow : OpenClaim := { program := "ytlhaofbncoijfaa", sum := "9b8d5452e5c3e7b3389cb0acdeae9331229529d5bf6ae77d9f63e2642827fae6", func := "pannier/pannierlaw04.IdBack", spec := "idBack", inPlace := ["internal/abi.NoEscape"], unfollowed := true, recurses := true, loops := true, apart := false }
def IdBackSaid : Prop := idBackRow.holds Try.pinned (OpenSpec.ofChange idBackSpec)

/-- ITS FALSE NEIGHBOUR: 'it returns false'. Refute it at one input. -/
def idBackWrong : ChangeSpec := { name := "idBack", fn := fun _ => fun
  | [d1, d2] => { results := [.lit (.bool false)], args := [d1, d2] }
  | _ => none }
def IdBackWrongFalsely : Prop := idBackRow.holds Try.pinned (OpenSpec.ofChange idBackWrong)

/- THE SECOND FORM. 'bulk': how many values and letters a reading holds, each counted each time it is reached (what is shared counts as often as it is met; a slice's spare places count too). A statement '..UptoSaid' is the law's where the arguments, and the package variables that the reading takes, are together of bulk at most 1048576: NARROWER than '..Said'. Prove '..Said' where nothing that the law and all that it calls make is longer than what came in: it says more and counts as full. Else prove '..UptoSaid'. A law counts once. -/
mutual
def uptoBulk {H : Type} : DataW H → Nat
  | .lit (.string bytes) => bytes.length + 1
  | .lit _ => 1
  | .nil => 1
  | .ptr d => uptoBulk d + 1
  | .slice elems spare => uptoBulkAll elems + uptoBulkAll spare + 1
  | .agg parts => uptoBulkAll parts + 1
  | .iface _ d => uptoBulk d + 1
  | .map entries => uptoBulkEntries entries + 1
  | .held _ => 1
def uptoBulkAll {H : Type} : List (DataW H) → Nat
  | [] => 0
  | d :: r => uptoBulk d + uptoBulkAll r
def uptoBulkEntries {H : Type} : List (Lit × DataW H) → Nat
  | [] => 0
  | x :: r => uptoBulkEntry x + uptoBulkEntries r
def uptoBulkEntry {H : Type} : Lit × DataW H → Nat
  | (.string bytes, d) => bytes.length + uptoBulk d + 1
  | (_, d) => uptoBulk d + 1
 end
def uptoSmall : (H : Type) → List (DataW H) → Bool := fun _ ds => decide (uptoBulkAll ds ≤ 1048576)
def OpenSpec.upto (s : _root_.Go.ChangeSpec) : _root_.Go.OpenSpec := { _root_.Go.OpenSpec.ofChange s with cond := some uptoSmall }

/-- 'pannierlaw04.IdNorms', WHERE WHAT IT READS IS OF BULK AT MOST 1048576: true; the input reads as it did. -/
def idNormsUptoRow : OpenClaim := { program := "ytlhaofbncoijfaa", sum := "9b8d5452e5c3e7b3389cb0acdeae9331229529d5bf6ae77d9f63e2642827fae6", func := "pannier/pannierlaw04.IdNorms", spec := "idNorms", inPlace := ["internal/abi.NoEscape"], unfollowed := true, recurses := true, loops := true, apart := false, narrowed := true }
def IdNormsUptoSaid : Prop := idNormsUptoRow.holds Try.pinned (OpenSpec.upto idNormsSpec)

/-- 'pannierlaw04.IdWhole', WHERE WHAT IT READS IS OF BULK AT MOST 1048576: true; the input reads as it did. -/
def idWholeUptoRow : OpenClaim := { program := "ytlhaofbncoijfaa", sum := "9b8d5452e5c3e7b3389cb0acdeae9331229529d5bf6ae77d9f63e2642827fae6", func := "pannier/pannierlaw04.IdWhole", spec := "idWhole", inPlace := ["internal/abi.NoEscape"], unfollowed := true, recurses := true, loops := true, apart := false, narrowed := true }
def IdWholeUptoSaid : Prop := idWholeUptoRow.holds Try.pinned (OpenSpec.upto idWholeSpec)

/-- 'pannierlaw04.IdForks', WHERE WHAT IT READS IS OF BULK AT MOST 1048576: true; the input reads as it did. -/
def idForksUptoRow : OpenClaim := { program := "ytlhaofbncoijfaa", sum := "9b8d5452e5c3e7b3389cb0acdeae9331229529d5bf6ae77d9f63e2642827fae6", func := "pannier/pannierlaw04.IdForks", spec := "idForks", inPlace := ["internal/abi.NoEscape"], unfollowed := true, recurses := true, apart := false, narrowed := true }
def IdForksUptoSaid : Prop := idForksUptoRow.holds Try.pinned (OpenSpec.upto idForksSpec)

/-- 'pannierlaw04.IdThree', WHERE WHAT IT READS IS OF BULK AT MOST 1048576: true; the input reads as it did. -/
def idThreeUptoRow : OpenClaim := { program := "ytlhaofbncoijfaa", sum := "9b8d5452e5c3e7b3389cb0acdeae9331229529d5bf6ae77d9f63e2642827fae6", func := "pannier/pannierlaw04.IdThree", spec := "idThree", inPlace := ["internal/abi.NoEscape"], unfollowed := true, recurses := true, loops := true, apart := false, narrowed := true }
def IdThreeUptoSaid : Prop := idThreeUptoRow.holds Try.pinned (OpenSpec.upto idThreeSpec)

/-- 'pannierlaw04.IdSums', WHERE WHAT IT READS IS OF BULK AT MOST 1048576: true; the input reads as it did. -/
def idSumsUptoRow : OpenClaim := { program := "ytlhaofbncoijfaa", sum := "9b8d5452e5c3e7b3389cb0acdeae9331229529d5bf6ae77d9f63e2642827fae6", func := "pannier/pannierlaw04.IdSums", spec := "idSums", inPlace := ["internal/abi.NoEscape"], unfollowed := true, recurses := true, loops := true, apart := false, narrowed := true }
def IdSumsUptoSaid : Prop := idSumsUptoRow.holds Try.pinned (OpenSpec.upto idSumsSpec)

/-- 'pannierlaw04.IdSplits', WHERE WHAT IT READS IS OF BULK AT MOST 1048576: true; the input reads as it did. -/
def idSplitsUptoRow : OpenClaim := { program := "ytlhaofbncoijfaa", sum := "9b8d5452e5c3e7b3389cb0acdeae9331229529d5bf6ae77d9f63e2642827fae6", func := "pannier/pannierlaw04.IdSplits", spec := "idSplits", inPlace := ["internal/abi.NoEscape"], unfollowed := true, recurses := true, loops := true, apart := false, narrowed := true }
def IdSplitsUptoSaid : Prop := idSplitsUptoRow.holds Try.pinned (OpenSpec.upto idSplitsSpec)

/-- 'pannierlaw04.IdTexts', WHERE WHAT IT READS IS OF BULK AT MOST 1048576: true; the input reads as it did. -/
def idTextsUptoRow : OpenClaim := { program := "ytlhaofbncoijfaa", sum := "9b8d5452e5c3e7b3389cb0acdeae9331229529d5bf6ae77d9f63e2642827fae6", func := "pannier/pannierlaw04.IdTexts", spec := "idTexts", inPlace := ["internal/abi.NoEscape"], unfollowed := true, recurses := true, loops := true, apart := false, narrowed := true }
def IdTextsUptoSaid : Prop := idTextsUptoRow.holds Try.pinned (OpenSpec.upto idTextsSpec)

/-- 'pannierlaw04.IdBits', WHERE WHAT IT READS IS OF BULK AT MOST 1048576: true; the input reads as it did. -/
def idBitsUptoRow : OpenClaim := { program := "ytlhaofbncoijfaa", sum := "9b8d5452e5c3e7b3389cb0acdeae9331229529d5bf6ae77d9f63e2642827fae6", func := "pannier/pannierlaw04.IdBits", spec := "idBits", inPlace := ["internal/abi.NoEscape"], unfollowed := true, recurses := true, loops := true, apart := false, narrowed := true }
def IdBitsUptoSaid : Prop := idBitsUptoRow.holds Try.pinned (OpenSpec.upto idBitsSpec)

/-- 'pannierlaw04.IdBack', WHERE WHAT IT READS IS OF BULK AT MOST 1048576: true; the input reads as it did. -/
def idBackUptoRow : OpenClaim := { program := "ytlhaofbncoijfaa", sum := "9b8d5452e5c3e7b3389cb0acdeae9331229529d5bf6ae77d9f63e2642827fae6", func := "pannier/pannierlaw04.IdBack", spec := "idBack", inPlace := ["internal/abi.NoEscape"], unfollowed := true, recurses := true, loops := true, apart := false, narrowed := true }
def IdBackUptoSaid : Prop := idBackUptoRow.holds Try.pinned (OpenSpec.upto idBackSpec)

end Rows
end Go.Proofs.Ytlhaofbncoijfaa
