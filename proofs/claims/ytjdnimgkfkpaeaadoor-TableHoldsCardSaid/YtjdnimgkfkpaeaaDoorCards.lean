/-
  DERIVED. GIVEN WITH THE SEED: THE CARDS: each row of YtjdnimgkfkpaeaaDoorRows.lean that lists a variable, with what it lists TIED to the program's text (the seventh form; the later family's looks); each row that meets fmt, with fmt's text TOLD by the authors' own Lean function (tested against real Go, not proved from fmt's source: count such statements apart). THE CARD IS WHAT COUNTS. Prove the row's statement (the work); the ties are given (YtjdnimgkfkpaeaaDoorTie.lean); close each card by the builder's one call (the guide's Derived/Test/ToyasCard.lean, 'card_holds'). Laid BY PROGRAM, IN A SANDBOX (cutbox-door.mjs). By AI agents, Wed Nov 11 2026. No macro, syntax, notation, axiom, sorry.
-/
import Derived.Test.YtjdnimgkfkpaeaaDoorRows
import GoSem.ClaimSeven
namespace Go.Proofs.YtjdnimgkfkpaeaaDoor
namespace Rows

/-- THE TIED CARD OF 'nunciolaw11.TablePlays'. -/
def tablePlaysCard : Claim7 := { stood := { row := tablePlaysRow, standIns := [], harness := (true, "9e87ce889782e65115c942755d9843e28200735a0f16b294babb39e274da7db2"), looks := false }, kinds := [], alts := [], laidByText := true, laidKinds := [.data, .pinned], laidTests := true, laidLooks := .later }
def TablePlaysCardSaid : Prop := Claim7.holds Tryd.pinned (.plain (OpenSpec.ofChange tablePlaysSpec)) tablePlaysCard

/-- THE TIED CARD OF 'nunciolaw11.TableFinds'. -/
def tableFindsCard : Claim7 := { stood := { row := tableFindsRow, standIns := [], harness := (true, "9e87ce889782e65115c942755d9843e28200735a0f16b294babb39e274da7db2"), looks := false }, kinds := [], alts := [], laidByText := true, laidKinds := [.data, .pinned], laidTests := true, laidLooks := .later }
def TableFindsCardSaid : Prop := Claim7.holds Tryd.pinned (.plain (OpenSpec.ofChange tableFindsSpec)) tableFindsCard

/-- THE TIED CARD OF 'nunciolaw11.TableHolds'. -/
def tableHoldsCard : Claim7 := { stood := { row := tableHoldsRow, standIns := [], harness := (true, "9e87ce889782e65115c942755d9843e28200735a0f16b294babb39e274da7db2"), looks := false }, kinds := [], alts := [], laidByText := true, laidKinds := [.data, .pinned], laidTests := true, laidLooks := .later }
def TableHoldsCardSaid : Prop := Claim7.holds Tryd.pinned (.plain (OpenSpec.ofChange tableHoldsSpec)) tableHoldsCard

/-- THE TIED CARD OF 'nunciolaw11.TableApart'. -/
def tableApartCard : Claim7 := { stood := { row := tableApartRow, standIns := [], harness := (true, "9e87ce889782e65115c942755d9843e28200735a0f16b294babb39e274da7db2"), looks := false }, kinds := [], alts := [], laidByText := true, laidKinds := [.data, .pinned], laidTests := true, laidLooks := .later }
def TableApartCardSaid : Prop := Claim7.holds Tryd.pinned (.plain (OpenSpec.ofChange tableApartSpec)) tableApartCard

/-- THE TIED CARD OF 'nunciolaw11.TableSizes'. -/
def tableSizesCard : Claim7 := { stood := { row := tableSizesRow, standIns := [], harness := (true, "9e87ce889782e65115c942755d9843e28200735a0f16b294babb39e274da7db2"), looks := false }, kinds := [], alts := [], laidByText := true, laidKinds := [.data, .pinned], laidTests := true, laidLooks := .later }
def TableSizesCardSaid : Prop := Claim7.holds Tryd.pinned (.plain (OpenSpec.ofChange tableSizesSpec)) tableSizesCard

/-- THE SECOND FORM's CARD OF 'nunciolaw11.TablePlays'. -/
def tablePlaysUptoCard : Claim7 := { stood := { row := tablePlaysUptoRow, standIns := [], harness := (true, "9e87ce889782e65115c942755d9843e28200735a0f16b294babb39e274da7db2"), looks := false }, kinds := [], alts := [], laidByText := true, laidKinds := [.data, .pinned], laidTests := true, laidLooks := .later }
def TablePlaysUptoCardSaid : Prop := Claim7.holds Tryd.pinned (.plain (OpenSpec.upto tablePlaysSpec)) tablePlaysUptoCard

/-- THE SECOND FORM's CARD OF 'nunciolaw11.TableFinds'. -/
def tableFindsUptoCard : Claim7 := { stood := { row := tableFindsUptoRow, standIns := [], harness := (true, "9e87ce889782e65115c942755d9843e28200735a0f16b294babb39e274da7db2"), looks := false }, kinds := [], alts := [], laidByText := true, laidKinds := [.data, .pinned], laidTests := true, laidLooks := .later }
def TableFindsUptoCardSaid : Prop := Claim7.holds Tryd.pinned (.plain (OpenSpec.upto tableFindsSpec)) tableFindsUptoCard

/-- THE SECOND FORM's CARD OF 'nunciolaw11.TableHolds'. -/
def tableHoldsUptoCard : Claim7 := { stood := { row := tableHoldsUptoRow, standIns := [], harness := (true, "9e87ce889782e65115c942755d9843e28200735a0f16b294babb39e274da7db2"), looks := false }, kinds := [], alts := [], laidByText := true, laidKinds := [.data, .pinned], laidTests := true, laidLooks := .later }
def TableHoldsUptoCardSaid : Prop := Claim7.holds Tryd.pinned (.plain (OpenSpec.upto tableHoldsSpec)) tableHoldsUptoCard

/-- THE SECOND FORM's CARD OF 'nunciolaw11.TableApart'. -/
def tableApartUptoCard : Claim7 := { stood := { row := tableApartUptoRow, standIns := [], harness := (true, "9e87ce889782e65115c942755d9843e28200735a0f16b294babb39e274da7db2"), looks := false }, kinds := [], alts := [], laidByText := true, laidKinds := [.data, .pinned], laidTests := true, laidLooks := .later }
def TableApartUptoCardSaid : Prop := Claim7.holds Tryd.pinned (.plain (OpenSpec.upto tableApartSpec)) tableApartUptoCard

/-- THE SECOND FORM's CARD OF 'nunciolaw11.TableSizes'. -/
def tableSizesUptoCard : Claim7 := { stood := { row := tableSizesUptoRow, standIns := [], harness := (true, "9e87ce889782e65115c942755d9843e28200735a0f16b294babb39e274da7db2"), looks := false }, kinds := [], alts := [], laidByText := true, laidKinds := [.data, .pinned], laidTests := true, laidLooks := .later }
def TableSizesUptoCardSaid : Prop := Claim7.holds Tryd.pinned (.plain (OpenSpec.upto tableSizesSpec)) tableSizesUptoCard
end Rows
end Go.Proofs.YtjdnimgkfkpaeaaDoor
