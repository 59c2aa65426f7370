/-
  DERIVED. GIVEN WITH THE SEED: THE CARDS: each row of YtfkdocmhbmameaaDoorRows.lean that lists a variable, with what it lists TIED to the program's text (the seventh form; the later family's looks); each row that meets fmt, with fmt's text TOLD by the authors' own Lean function (tested against real Go, not proved from fmt's source: count such statements apart). THE CARD IS WHAT COUNTS. Prove the row's statement (the work); the ties are given (YtfkdocmhbmameaaDoorTie.lean); close each card by the builder's one call (the guide's Derived/Test/ToyasCard.lean, 'card_holds'). Laid BY PROGRAM, IN A SANDBOX (cutbox-door.mjs). By AI agents, Wed Nov 11 2026. No macro, syntax, notation, axiom, sorry.
-/
import Derived.Test.YtfkdocmhbmameaaDoorRows
import GoSem.ClaimSeven
namespace Go.Proofs.YtfkdocmhbmameaaDoor
namespace Rows

/-- THE TIED CARD OF 'nunciolaw13.PackShort'. -/
def packShortCard : Claim7 := { stood := { row := packShortRow, standIns := [], harness := (true, "eea5b88144d257cb52e5e1be1609d500d2d2b643a9db528c5a38c5867f05c6c1"), looks := true }, kinds := [], alts := [], laidByText := true, laidKinds := [.data, .pinned], laidTests := true, laidLooks := .later }
def PackShortCardSaid : Prop := Claim7.holds Tryd.pinned (.plain (OpenSpec.ofChange packShortSpec)) packShortCard

/-- THE TIED CARD OF 'nunciolaw13.PackNever'. -/
def packNeverCard : Claim7 := { stood := { row := packNeverRow, standIns := [], harness := (true, "eea5b88144d257cb52e5e1be1609d500d2d2b643a9db528c5a38c5867f05c6c1"), looks := true }, kinds := [], alts := [], laidByText := true, laidKinds := [.data, .pinned], laidTests := true, laidLooks := .later }
def PackNeverCardSaid : Prop := Claim7.holds Tryd.pinned (.plain (OpenSpec.ofChange packNeverSpec)) packNeverCard

/-- THE TIED CARD OF 'nunciolaw12.UnpackReads'. -/
def unpackReadsCard : Claim7 := { stood := { row := unpackReadsRow, standIns := [], harness := (true, "eea5b88144d257cb52e5e1be1609d500d2d2b643a9db528c5a38c5867f05c6c1"), looks := true }, kinds := [], alts := [], laidByText := true, laidKinds := [.data, .pinned], laidTests := true, laidLooks := .later }
def UnpackReadsCardSaid : Prop := Claim7.holds Tryd.pinned (.plain (OpenSpec.ofChange unpackReadsSpec)) unpackReadsCard

/-- THE TIED CARD OF 'nunciolaw12.UnpackHolds'. -/
def unpackHoldsCard : Claim7 := { stood := { row := unpackHoldsRow, standIns := [], harness := (true, "eea5b88144d257cb52e5e1be1609d500d2d2b643a9db528c5a38c5867f05c6c1"), looks := true }, kinds := [], alts := [], laidByText := true, laidKinds := [.data, .pinned], laidTests := true, laidLooks := .later }
def UnpackHoldsCardSaid : Prop := Claim7.holds Tryd.pinned (.plain (OpenSpec.ofChange unpackHoldsSpec)) unpackHoldsCard

/-- THE TIED CARD OF 'nunciolaw12.UnpackParts'. -/
def unpackPartsCard : Claim7 := { stood := { row := unpackPartsRow, standIns := [], harness := (true, "eea5b88144d257cb52e5e1be1609d500d2d2b643a9db528c5a38c5867f05c6c1"), looks := true }, kinds := [], alts := [], laidByText := true, laidKinds := [.data, .pinned], laidTests := true, laidLooks := .later }
def UnpackPartsCardSaid : Prop := Claim7.holds Tryd.pinned (.plain (OpenSpec.ofChange unpackPartsSpec)) unpackPartsCard

/-- THE TIED CARD OF 'nunciolaw13.PackBack'. -/
def packBackCard : Claim7 := { stood := { row := packBackRow, standIns := [], harness := (true, "eea5b88144d257cb52e5e1be1609d500d2d2b643a9db528c5a38c5867f05c6c1"), looks := true }, kinds := [], alts := [], laidByText := true, laidKinds := [.data, .pinned], laidTests := true, laidLooks := .later }
def PackBackCardSaid : Prop := Claim7.holds Tryd.pinned (.plain (OpenSpec.ofChange packBackSpec)) packBackCard

/-- THE SECOND FORM's CARD OF 'nunciolaw13.PackShort'. -/
def packShortUptoCard : Claim7 := { stood := { row := packShortUptoRow, standIns := [], harness := (true, "eea5b88144d257cb52e5e1be1609d500d2d2b643a9db528c5a38c5867f05c6c1"), looks := true }, kinds := [], alts := [], laidByText := true, laidKinds := [.data, .pinned], laidTests := true, laidLooks := .later }
def PackShortUptoCardSaid : Prop := Claim7.holds Tryd.pinned (.plain (OpenSpec.upto packShortSpec)) packShortUptoCard

/-- THE SECOND FORM's CARD OF 'nunciolaw13.PackNever'. -/
def packNeverUptoCard : Claim7 := { stood := { row := packNeverUptoRow, standIns := [], harness := (true, "eea5b88144d257cb52e5e1be1609d500d2d2b643a9db528c5a38c5867f05c6c1"), looks := true }, kinds := [], alts := [], laidByText := true, laidKinds := [.data, .pinned], laidTests := true, laidLooks := .later }
def PackNeverUptoCardSaid : Prop := Claim7.holds Tryd.pinned (.plain (OpenSpec.upto packNeverSpec)) packNeverUptoCard

/-- THE SECOND FORM's CARD OF 'nunciolaw12.UnpackReads'. -/
def unpackReadsUptoCard : Claim7 := { stood := { row := unpackReadsUptoRow, standIns := [], harness := (true, "eea5b88144d257cb52e5e1be1609d500d2d2b643a9db528c5a38c5867f05c6c1"), looks := true }, kinds := [], alts := [], laidByText := true, laidKinds := [.data, .pinned], laidTests := true, laidLooks := .later }
def UnpackReadsUptoCardSaid : Prop := Claim7.holds Tryd.pinned (.plain (OpenSpec.upto unpackReadsSpec)) unpackReadsUptoCard

/-- THE SECOND FORM's CARD OF 'nunciolaw12.UnpackHolds'. -/
def unpackHoldsUptoCard : Claim7 := { stood := { row := unpackHoldsUptoRow, standIns := [], harness := (true, "eea5b88144d257cb52e5e1be1609d500d2d2b643a9db528c5a38c5867f05c6c1"), looks := true }, kinds := [], alts := [], laidByText := true, laidKinds := [.data, .pinned], laidTests := true, laidLooks := .later }
def UnpackHoldsUptoCardSaid : Prop := Claim7.holds Tryd.pinned (.plain (OpenSpec.upto unpackHoldsSpec)) unpackHoldsUptoCard

/-- THE SECOND FORM's CARD OF 'nunciolaw12.UnpackParts'. -/
def unpackPartsUptoCard : Claim7 := { stood := { row := unpackPartsUptoRow, standIns := [], harness := (true, "eea5b88144d257cb52e5e1be1609d500d2d2b643a9db528c5a38c5867f05c6c1"), looks := true }, kinds := [], alts := [], laidByText := true, laidKinds := [.data, .pinned], laidTests := true, laidLooks := .later }
def UnpackPartsUptoCardSaid : Prop := Claim7.holds Tryd.pinned (.plain (OpenSpec.upto unpackPartsSpec)) unpackPartsUptoCard

/-- THE SECOND FORM's CARD OF 'nunciolaw13.PackBack'. -/
def packBackUptoCard : Claim7 := { stood := { row := packBackUptoRow, standIns := [], harness := (true, "eea5b88144d257cb52e5e1be1609d500d2d2b643a9db528c5a38c5867f05c6c1"), looks := true }, kinds := [], alts := [], laidByText := true, laidKinds := [.data, .pinned], laidTests := true, laidLooks := .later }
def PackBackUptoCardSaid : Prop := Claim7.holds Tryd.pinned (.plain (OpenSpec.upto packBackSpec)) packBackUptoCard
end Rows
end Go.Proofs.YtfkdocmhbmameaaDoor
