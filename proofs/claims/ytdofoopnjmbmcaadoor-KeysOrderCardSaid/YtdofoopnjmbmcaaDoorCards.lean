/-
  DERIVED. GIVEN WITH THE SEED: THE CARDS: each row of YtdofoopnjmbmcaaDoorRows.lean that lists a variable, with what it lists TIED to the program's text (the seventh form; the later family's looks); each row that meets fmt, with fmt's text TOLD by the authors' own Lean function (tested against real Go, not proved from fmt's source: count such statements apart). THE CARD IS WHAT COUNTS. Prove the row's statement (the work); the ties are given (YtdofoopnjmbmcaaDoorTie.lean); close each card by the builder's one call (the guide's Derived/Test/ToyasCard.lean, 'card_holds'). Laid BY PROGRAM, IN A SANDBOX (cutbox-door.mjs). By AI agents, Wed Nov 11 2026. No macro, syntax, notation, axiom, sorry.
-/
import Derived.Test.YtdofoopnjmbmcaaDoorRows
import GoSem.ClaimSeven
namespace Go.Proofs.YtdofoopnjmbmcaaDoor
namespace Rows

/-- THE TIED CARD OF 'pannierlaw03.KeysStand'. -/
def keysStandCard : Claim7 := { stood := { row := keysStandRow, standIns := [], harness := (true, "4e0bc7c1f703a664a5aab131b57e290af889875bbac471bc5d31c9db29ebfd78"), looks := false }, kinds := [], alts := [], laidByText := true, laidKinds := [.data, .pinned], laidTests := true, laidLooks := .later }
def KeysStandCardSaid : Prop := Claim7.holds Tryd.pinned (.plain (OpenSpec.ofChange keysStandSpec)) keysStandCard

/-- THE TIED CARD OF 'pannierlaw03.KeysOrder'. -/
def keysOrderCard : Claim7 := { stood := { row := keysOrderRow, standIns := [], harness := (true, "4e0bc7c1f703a664a5aab131b57e290af889875bbac471bc5d31c9db29ebfd78"), looks := false }, kinds := [], alts := [], laidByText := true, laidKinds := [.data, .pinned], laidTests := true, laidLooks := .later }
def KeysOrderCardSaid : Prop := Claim7.holds Tryd.pinned (.plain (OpenSpec.ofChange keysOrderSpec)) keysOrderCard

/-- THE TIED CARD OF 'pannierlaw03.KeysBehind'. -/
def keysBehindCard : Claim7 := { stood := { row := keysBehindRow, standIns := [], harness := (true, "4e0bc7c1f703a664a5aab131b57e290af889875bbac471bc5d31c9db29ebfd78"), looks := false }, kinds := [], alts := [], laidByText := true, laidKinds := [.data, .pinned], laidTests := true, laidLooks := .later }
def KeysBehindCardSaid : Prop := Claim7.holds Tryd.pinned (.plain (OpenSpec.ofChange keysBehindSpec)) keysBehindCard

/-- THE TIED CARD OF 'pannierlaw03.KeysBegin'. -/
def keysBeginCard : Claim7 := { stood := { row := keysBeginRow, standIns := [], harness := (true, "4e0bc7c1f703a664a5aab131b57e290af889875bbac471bc5d31c9db29ebfd78"), looks := false }, kinds := [], alts := [], laidByText := true, laidKinds := [.data, .pinned], laidTests := true, laidLooks := .later }
def KeysBeginCardSaid : Prop := Claim7.holds Tryd.pinned (.plain (OpenSpec.ofChange keysBeginSpec)) keysBeginCard

/-- THE TIED CARD OF 'pannierlaw03.KeysWords'. -/
def keysWordsCard : Claim7 := { stood := { row := keysWordsRow, standIns := [], harness := (true, "4e0bc7c1f703a664a5aab131b57e290af889875bbac471bc5d31c9db29ebfd78"), looks := false }, kinds := [], alts := [], laidByText := true, laidKinds := [.data, .pinned], laidTests := true, laidLooks := .later }
def KeysWordsCardSaid : Prop := Claim7.holds Tryd.pinned (.plain (OpenSpec.ofChange keysWordsSpec)) keysWordsCard

/-- THE TIED CARD OF 'pannierlaw03.KeysOne'. -/
def keysOneCard : Claim7 := { stood := { row := keysOneRow, standIns := [], harness := (true, "4e0bc7c1f703a664a5aab131b57e290af889875bbac471bc5d31c9db29ebfd78"), looks := false }, kinds := [], alts := [], laidByText := true, laidKinds := [.data, .pinned], laidTests := true, laidLooks := .later }
def KeysOneCardSaid : Prop := Claim7.holds Tryd.pinned (.plain (OpenSpec.ofChange keysOneSpec)) keysOneCard

/-- THE SECOND FORM's CARD OF 'pannierlaw03.KeysStand'. -/
def keysStandUptoCard : Claim7 := { stood := { row := keysStandUptoRow, standIns := [], harness := (true, "4e0bc7c1f703a664a5aab131b57e290af889875bbac471bc5d31c9db29ebfd78"), looks := false }, kinds := [], alts := [], laidByText := true, laidKinds := [.data, .pinned], laidTests := true, laidLooks := .later }
def KeysStandUptoCardSaid : Prop := Claim7.holds Tryd.pinned (.plain (OpenSpec.upto keysStandSpec)) keysStandUptoCard

/-- THE SECOND FORM's CARD OF 'pannierlaw03.KeysOrder'. -/
def keysOrderUptoCard : Claim7 := { stood := { row := keysOrderUptoRow, standIns := [], harness := (true, "4e0bc7c1f703a664a5aab131b57e290af889875bbac471bc5d31c9db29ebfd78"), looks := false }, kinds := [], alts := [], laidByText := true, laidKinds := [.data, .pinned], laidTests := true, laidLooks := .later }
def KeysOrderUptoCardSaid : Prop := Claim7.holds Tryd.pinned (.plain (OpenSpec.upto keysOrderSpec)) keysOrderUptoCard

/-- THE SECOND FORM's CARD OF 'pannierlaw03.KeysBehind'. -/
def keysBehindUptoCard : Claim7 := { stood := { row := keysBehindUptoRow, standIns := [], harness := (true, "4e0bc7c1f703a664a5aab131b57e290af889875bbac471bc5d31c9db29ebfd78"), looks := false }, kinds := [], alts := [], laidByText := true, laidKinds := [.data, .pinned], laidTests := true, laidLooks := .later }
def KeysBehindUptoCardSaid : Prop := Claim7.holds Tryd.pinned (.plain (OpenSpec.upto keysBehindSpec)) keysBehindUptoCard

/-- THE SECOND FORM's CARD OF 'pannierlaw03.KeysBegin'. -/
def keysBeginUptoCard : Claim7 := { stood := { row := keysBeginUptoRow, standIns := [], harness := (true, "4e0bc7c1f703a664a5aab131b57e290af889875bbac471bc5d31c9db29ebfd78"), looks := false }, kinds := [], alts := [], laidByText := true, laidKinds := [.data, .pinned], laidTests := true, laidLooks := .later }
def KeysBeginUptoCardSaid : Prop := Claim7.holds Tryd.pinned (.plain (OpenSpec.upto keysBeginSpec)) keysBeginUptoCard

/-- THE SECOND FORM's CARD OF 'pannierlaw03.KeysWords'. -/
def keysWordsUptoCard : Claim7 := { stood := { row := keysWordsUptoRow, standIns := [], harness := (true, "4e0bc7c1f703a664a5aab131b57e290af889875bbac471bc5d31c9db29ebfd78"), looks := false }, kinds := [], alts := [], laidByText := true, laidKinds := [.data, .pinned], laidTests := true, laidLooks := .later }
def KeysWordsUptoCardSaid : Prop := Claim7.holds Tryd.pinned (.plain (OpenSpec.upto keysWordsSpec)) keysWordsUptoCard

/-- THE SECOND FORM's CARD OF 'pannierlaw03.KeysOne'. -/
def keysOneUptoCard : Claim7 := { stood := { row := keysOneUptoRow, standIns := [], harness := (true, "4e0bc7c1f703a664a5aab131b57e290af889875bbac471bc5d31c9db29ebfd78"), looks := false }, kinds := [], alts := [], laidByText := true, laidKinds := [.data, .pinned], laidTests := true, laidLooks := .later }
def KeysOneUptoCardSaid : Prop := Claim7.holds Tryd.pinned (.plain (OpenSpec.upto keysOneSpec)) keysOneUptoCard
end Rows
end Go.Proofs.YtdofoopnjmbmcaaDoor
