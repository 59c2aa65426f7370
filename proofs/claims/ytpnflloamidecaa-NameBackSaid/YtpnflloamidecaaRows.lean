/-
  No cell of these rows narrows 'for every input' (looked for: loops, veiled, ifaces, maps, wideKeys, modest, calm, conditions, laid).
  DERIVED. THE GIVEN ROWS OF THIS SEAT. 5 by the template 'for every input the law returns true; each argument reads behind the call as it read before'; 0 by the template 'total and deterministic' (their statements: YtpnflloamidecaaTotals.lean).
  GIVEN WITH THE SEED: the statements are not yours to turn. If you find one false, say at which input.
  Laid BY PROGRAM, IN A SANDBOX (cutbox-rows.mjs): the forced cells as the released guide's own fill.sh prints them over the translation 3fd335526adde6a9… (all of the seat's roots in one cut). By AI agents, Wed Nov 11 2026. No macro, syntax, notation, axiom, sorry.
-/
import Derived.Test.YtpnflloamidecaaChecked
import GoSem.Claim
import GoSem.ClaimJoined
import GoSem.ClaimMapViews
import Derived.JoinedTies
import Derived.KernelRfl
namespace Go.Proofs.Ytpnflloamidecaa
/- THE CELL 'sum', in the pinned program and in every row, IS THE sha256 OF THE DUMP (.gsa) THAT YtpnflloamidecaaProg.lean LOADS. Nothing in Lean hashes anything: it is a label: what it is worth is what the hold of that sum in a sandbox is worth. -/
noncomputable def Try.pinned : Pinned := { name := "ytpnflloamidecaa", sum := "3fd335526adde6a9224ebe0c31306dcff42acd1321450df7bf74cbf8b46a4f03", checked := Try.checked }
namespace Rows
def none {H : Type} : Left H := { results := [], args := [] }

/-- 'nunciolaw04.NameMakes': WHATEVER THE INPUT: true; the input reads as it did. -/
def nameMakesSpec : ChangeSpec := { name := "nameMakes", fn := fun _ => fun
  | [d1, d2] => { results := [.lit (.bool true)], args := [d1, d2] }
  | _ => none }
def nameMakesRow : OpenClaim := { program := "ytpnflloamidecaa", sum := "3fd335526adde6a9224ebe0c31306dcff42acd1321450df7bf74cbf8b46a4f03", func := "nuncio/nunciolaw04.NameMakes", spec := "nameMakes", apart := false }
def NameMakesSaid : Prop := nameMakesRow.holds Try.pinned (OpenSpec.ofChange nameMakesSpec)

/-- ITS FALSE NEIGHBOUR: 'it returns false'. Refute it at one input. -/
def nameMakesWrong : ChangeSpec := { name := "nameMakes", fn := fun _ => fun
  | [d1, d2] => { results := [.lit (.bool false)], args := [d1, d2] }
  | _ => none }
def NameMakesWrongFalsely : Prop := nameMakesRow.holds Try.pinned (OpenSpec.ofChange nameMakesWrong)

/-- 'nunciolaw04.NameFolds': WHATEVER THE INPUT: true; the input reads as it did. -/
def nameFoldsSpec : ChangeSpec := { name := "nameFolds", fn := fun _ => fun
  | [d1, d2] => { results := [.lit (.bool true)], args := [d1, d2] }
  | _ => none }
def nameFoldsRow : OpenClaim := { program := "ytpnflloamidecaa", sum := "3fd335526adde6a9224ebe0c31306dcff42acd1321450df7bf74cbf8b46a4f03", func := "nuncio/nunciolaw04.NameFolds", spec := "nameFolds", apart := false }
def NameFoldsSaid : Prop := nameFoldsRow.holds Try.pinned (OpenSpec.ofChange nameFoldsSpec)

/-- ITS FALSE NEIGHBOUR: 'it returns false'. Refute it at one input. -/
def nameFoldsWrong : ChangeSpec := { name := "nameFolds", fn := fun _ => fun
  | [d1, d2] => { results := [.lit (.bool false)], args := [d1, d2] }
  | _ => none }
def NameFoldsWrongFalsely : Prop := nameFoldsRow.holds Try.pinned (OpenSpec.ofChange nameFoldsWrong)

/-- 'nunciolaw04.NameTexts': WHATEVER THE INPUT: true; the input reads as it did. -/
def nameTextsSpec : ChangeSpec := { name := "nameTexts", fn := fun _ => fun
  | [d1, d2] => { results := [.lit (.bool true)], args := [d1, d2] }
  | _ => none }
def nameTextsRow : OpenClaim := { program := "ytpnflloamidecaa", sum := "3fd335526adde6a9224ebe0c31306dcff42acd1321450df7bf74cbf8b46a4f03", func := "nuncio/nunciolaw04.NameTexts", spec := "nameTexts", apart := false }
def NameTextsSaid : Prop := nameTextsRow.holds Try.pinned (OpenSpec.ofChange nameTextsSpec)

/-- ITS FALSE NEIGHBOUR: 'it returns false'. Refute it at one input. -/
def nameTextsWrong : ChangeSpec := { name := "nameTexts", fn := fun _ => fun
  | [d1, d2] => { results := [.lit (.bool false)], args := [d1, d2] }
  | _ => none }
def NameTextsWrongFalsely : Prop := nameTextsRow.holds Try.pinned (OpenSpec.ofChange nameTextsWrong)

/-- 'nunciolaw04.NameBack': WHATEVER THE INPUT: true; the input reads as it did. -/
def nameBackSpec : ChangeSpec := { name := "nameBack", fn := fun _ => fun
  | [d1, d2] => { results := [.lit (.bool true)], args := [d1, d2] }
  | _ => none }
def nameBackRow : OpenClaim := { program := "ytpnflloamidecaa", sum := "3fd335526adde6a9224ebe0c31306dcff42acd1321450df7bf74cbf8b46a4f03", func := "nuncio/nunciolaw04.NameBack", spec := "nameBack", apart := false }
def NameBackSaid : Prop := nameBackRow.holds Try.pinned (OpenSpec.ofChange nameBackSpec)

/-- ITS FALSE NEIGHBOUR: 'it returns false'. Refute it at one input. -/
def nameBackWrong : ChangeSpec := { name := "nameBack", fn := fun _ => fun
  | [d1, d2] => { results := [.lit (.bool false)], args := [d1, d2] }
  | _ => none }
def NameBackWrongFalsely : Prop := nameBackRow.holds Try.pinned (OpenSpec.ofChange nameBackWrong)

/-- 'nunciolaw04.NameZones': WHATEVER THE INPUT: true; the input reads as it did. -/
def nameZonesSpec : ChangeSpec := { name := "nameZones", fn := fun _ => fun
  | [d1, d2, d3] => { results := [.lit (.bool true)], args := [d1, d2, d3] }
  | _ => none }
def nameZonesRow : OpenClaim := { program := "ytpnflloamidecaa", sum := "3fd335526adde6a9224ebe0c31306dcff42acd1321450df7bf74cbf8b46a4f03", func := "nuncio/nunciolaw04.NameZones", spec := "nameZones", apart := false }
def NameZonesSaid : Prop := nameZonesRow.holds Try.pinned (OpenSpec.ofChange nameZonesSpec)

/-- ITS FALSE NEIGHBOUR: 'it returns false'. Refute it at one input. -/
def nameZonesWrong : ChangeSpec := { name := "nameZones", fn := fun _ => fun
  | [d1, d2, d3] => { results := [.lit (.bool false)], args := [d1, d2, d3] }
  | _ => none }
def NameZonesWrongFalsely : Prop := nameZonesRow.holds Try.pinned (OpenSpec.ofChange nameZonesWrong)

/- THE SECOND FORM. 'bulk': how many values and letters a reading holds, each counted each time it is reached (what is shared counts as often as it is met; a slice's spare places count too). A statement '..UptoSaid' is the law's where the arguments, and the package variables that the reading takes, are together of bulk at most 1048576: NARROWER than '..Said'. Prove '..Said' where nothing that the law and all that it calls make is longer than what came in: it says more and counts as full. Else prove '..UptoSaid'. A law counts once. -/
mutual
def uptoBulk {H : Type} : DataW H → Nat
  | .lit (.string bytes) => bytes.length + 1
  | .lit _ => 1
  | .nil => 1
  | .ptr d => uptoBulk d + 1
  | .slice elems spare => uptoBulkAll elems + uptoBulkAll spare + 1
  | .agg parts => uptoBulkAll parts + 1
  | .iface _ d => uptoBulk d + 1
  | .map entries => uptoBulkEntries entries + 1
  | .held _ => 1
def uptoBulkAll {H : Type} : List (DataW H) → Nat
  | [] => 0
  | d :: r => uptoBulk d + uptoBulkAll r
def uptoBulkEntries {H : Type} : List (Lit × DataW H) → Nat
  | [] => 0
  | x :: r => uptoBulkEntry x + uptoBulkEntries r
def uptoBulkEntry {H : Type} : Lit × DataW H → Nat
  | (.string bytes, d) => bytes.length + uptoBulk d + 1
  | (_, d) => uptoBulk d + 1
 end
def uptoSmall : (H : Type) → List (DataW H) → Bool := fun _ ds => decide (uptoBulkAll ds ≤ 1048576)
def OpenSpec.upto (s : _root_.Go.ChangeSpec) : _root_.Go.OpenSpec := { _root_.Go.OpenSpec.ofChange s with cond := some uptoSmall }

/-- 'nunciolaw04.NameMakes', WHERE WHAT IT READS IS OF BULK AT MOST 1048576: true; the input reads as it did. -/
def nameMakesUptoRow : OpenClaim := { program := "ytpnflloamidecaa", sum := "3fd335526adde6a9224ebe0c31306dcff42acd1321450df7bf74cbf8b46a4f03", func := "nuncio/nunciolaw04.NameMakes", spec := "nameMakes", apart := false, narrowed := true }
def NameMakesUptoSaid : Prop := nameMakesUptoRow.holds Try.pinned (OpenSpec.upto nameMakesSpec)

/-- 'nunciolaw04.NameFolds', WHERE WHAT IT READS IS OF BULK AT MOST 1048576: true; the input reads as it did. -/
def nameFoldsUptoRow : OpenClaim := { program := "ytpnflloamidecaa", sum := "3fd335526adde6a9224ebe0c31306dcff42acd1321450df7bf74cbf8b46a4f03", func := "nuncio/nunciolaw04.NameFolds", spec := "nameFolds", apart := false, narrowed := true }
def NameFoldsUptoSaid : Prop := nameFoldsUptoRow.holds Try.pinned (OpenSpec.upto nameFoldsSpec)

/-- 'nunciolaw04.NameTexts', WHERE WHAT IT READS IS OF BULK AT MOST 1048576: true; the input reads as it did. -/
def nameTextsUptoRow : OpenClaim := { program := "ytpnflloamidecaa", sum := "3fd335526adde6a9224ebe0c31306dcff42acd1321450df7bf74cbf8b46a4f03", func := "nuncio/nunciolaw04.NameTexts", spec := "nameTexts", apart := false, narrowed := true }
def NameTextsUptoSaid : Prop := nameTextsUptoRow.holds Try.pinned (OpenSpec.upto nameTextsSpec)

/-- 'nunciolaw04.NameBack', WHERE WHAT IT READS IS OF BULK AT MOST 1048576: true; the input reads as it did. -/
def nameBackUptoRow : OpenClaim := { program := "ytpnflloamidecaa", sum := "3fd335526adde6a9224ebe0c31306dcff42acd1321450df7bf74cbf8b46a4f03", func := "nuncio/nunciolaw04.NameBack", spec := "nameBack", apart := false, narrowed := true }
def NameBackUptoSaid : Prop := nameBackUptoRow.holds Try.pinned (OpenSpec.upto nameBackSpec)

/-- 'nunciolaw04.NameZones', WHERE WHAT IT READS IS OF BULK AT MOST 1048576: true; the input reads as it did. -/
def nameZonesUptoRow : OpenClaim := { program := "ytpnflloamidecaa", sum := "3fd335526adde6a9224ebe0c31306dcff42acd1321450df7bf74cbf8b46a4f03", func := "nuncio/nunciolaw04.NameZones", spec := "nameZones", apart := false, narrowed := true }
def NameZonesUptoSaid : Prop := nameZonesUptoRow.holds Try.pinned (OpenSpec.upto nameZonesSpec)

end Rows
end Go.Proofs.Ytpnflloamidecaa
