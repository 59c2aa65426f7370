/-
  No cell of these rows narrows 'for every input' (looked for: loops, veiled, ifaces, maps, wideKeys, modest, calm, conditions, laid).
  DERIVED. THE GIVEN ROWS OF THIS SEAT. 6 by the template 'for every input the law returns true; each argument reads behind the call as it read before'; 0 by the template 'total and deterministic' (their statements: YtadnfcodaoflfaaTotals.lean).
  GIVEN WITH THE SEED: the statements are not yours to turn. If you find one false, say at which input.
  Laid BY PROGRAM, IN A SANDBOX (cutbox-rows.mjs): the forced cells as the released guide's own fill.sh prints them over the translation 215c1972dd84bcce… (all of the seat's roots in one cut). By AI agents, Wed Nov 11 2026. No macro, syntax, notation, axiom, sorry.
-/
import Derived.Test.YtadnfcodaoflfaaChecked
import GoSem.Claim
import GoSem.ClaimJoined
import GoSem.ClaimMapViews
import Derived.JoinedTies
import Derived.KernelRfl
namespace Go.Proofs.Ytadnfcodaoflfaa
/- THE CELL 'sum', in the pinned program and in every row, IS THE sha256 OF THE DUMP (.gsa) THAT YtadnfcodaoflfaaProg.lean LOADS. Nothing in Lean hashes anything: it is a label: what it is worth is what the hold of that sum in a sandbox is worth. -/
noncomputable def Try.pinned : Pinned := { name := "ytadnfcodaoflfaa", sum := "215c1972dd84bccebaa202a87f03f6ef7ee721308814b3f47bceaa09e6255314", checked := Try.checked }
namespace Rows
def none {H : Type} : Left H := { results := [], args := [] }

/-- 'nunciolaw10.HuffEncodes': WHATEVER THE INPUT: true; the input reads as it did. -/
def huffEncodesSpec : ChangeSpec := { name := "huffEncodes", fn := fun _ => fun
  | [d] => { results := [.lit (.bool true)], args := [d] }
  | _ => none }
def huffEncodesRow : OpenClaim := { program := "ytadnfcodaoflfaa", sum := "215c1972dd84bccebaa202a87f03f6ef7ee721308814b3f47bceaa09e6255314", func := "nuncio/nunciolaw10.HuffEncodes", spec := "huffEncodes", apart := false }
def HuffEncodesSaid : Prop := huffEncodesRow.holds Try.pinned (OpenSpec.ofChange huffEncodesSpec)

/-- ITS FALSE NEIGHBOUR: 'it returns false'. Refute it at one input. -/
def huffEncodesWrong : ChangeSpec := { name := "huffEncodes", fn := fun _ => fun
  | [d] => { results := [.lit (.bool false)], args := [d] }
  | _ => none }
def HuffEncodesWrongFalsely : Prop := huffEncodesRow.holds Try.pinned (OpenSpec.ofChange huffEncodesWrong)

/-- 'nunciolaw10.HuffDecodes': WHATEVER THE INPUT: true; the input reads as it did. -/
def huffDecodesSpec : ChangeSpec := { name := "huffDecodes", fn := fun _ => fun
  | [d] => { results := [.lit (.bool true)], args := [d] }
  | _ => none }
def huffDecodesRow : OpenClaim := { program := "ytadnfcodaoflfaa", sum := "215c1972dd84bccebaa202a87f03f6ef7ee721308814b3f47bceaa09e6255314", func := "nuncio/nunciolaw10.HuffDecodes", spec := "huffDecodes", apart := false }
def HuffDecodesSaid : Prop := huffDecodesRow.holds Try.pinned (OpenSpec.ofChange huffDecodesSpec)

/-- ITS FALSE NEIGHBOUR: 'it returns false'. Refute it at one input. -/
def huffDecodesWrong : ChangeSpec := { name := "huffDecodes", fn := fun _ => fun
  | [d] => { results := [.lit (.bool false)], args := [d] }
  | _ => none }
def HuffDecodesWrongFalsely : Prop := huffDecodesRow.holds Try.pinned (OpenSpec.ofChange huffDecodesWrong)

/-- 'nunciolaw10.HuffBack': WHATEVER THE INPUT: true; the input reads as it did. -/
def huffBackSpec : ChangeSpec := { name := "huffBack", fn := fun _ => fun
  | [d1, d2] => { results := [.lit (.bool true)], args := [d1, d2] }
  | _ => none }
def huffBackRow : OpenClaim := { program := "ytadnfcodaoflfaa", sum := "215c1972dd84bccebaa202a87f03f6ef7ee721308814b3f47bceaa09e6255314", func := "nuncio/nunciolaw10.HuffBack", spec := "huffBack", apart := false }
def HuffBackSaid : Prop := huffBackRow.holds Try.pinned (OpenSpec.ofChange huffBackSpec)

/-- ITS FALSE NEIGHBOUR: 'it returns false'. Refute it at one input. -/
def huffBackWrong : ChangeSpec := { name := "huffBack", fn := fun _ => fun
  | [d1, d2] => { results := [.lit (.bool false)], args := [d1, d2] }
  | _ => none }
def HuffBackWrongFalsely : Prop := huffBackRow.holds Try.pinned (OpenSpec.ofChange huffBackWrong)

/-- 'nunciolaw10.HuffWhole': WHATEVER THE INPUT: true; the input reads as it did. -/
def huffWholeSpec : ChangeSpec := { name := "huffWhole", fn := fun _ => fun
  | [d] => { results := [.lit (.bool true)], args := [d] }
  | _ => none }
def huffWholeRow : OpenClaim := { program := "ytadnfcodaoflfaa", sum := "215c1972dd84bccebaa202a87f03f6ef7ee721308814b3f47bceaa09e6255314", func := "nuncio/nunciolaw10.HuffWhole", spec := "huffWhole", apart := false }
def HuffWholeSaid : Prop := huffWholeRow.holds Try.pinned (OpenSpec.ofChange huffWholeSpec)

/-- ITS FALSE NEIGHBOUR: 'it returns false'. Refute it at one input. -/
def huffWholeWrong : ChangeSpec := { name := "huffWhole", fn := fun _ => fun
  | [d] => { results := [.lit (.bool false)], args := [d] }
  | _ => none }
def HuffWholeWrongFalsely : Prop := huffWholeRow.holds Try.pinned (OpenSpec.ofChange huffWholeWrong)

/-- 'nunciolaw10.HuffSizes': WHATEVER THE INPUT: true; the input reads as it did. -/
def huffSizesSpec : ChangeSpec := { name := "huffSizes", fn := fun _ => fun
  | [d1, d2] => { results := [.lit (.bool true)], args := [d1, d2] }
  | _ => none }
def huffSizesRow : OpenClaim := { program := "ytadnfcodaoflfaa", sum := "215c1972dd84bccebaa202a87f03f6ef7ee721308814b3f47bceaa09e6255314", func := "nuncio/nunciolaw10.HuffSizes", spec := "huffSizes", apart := false }
def HuffSizesSaid : Prop := huffSizesRow.holds Try.pinned (OpenSpec.ofChange huffSizesSpec)

/-- ITS FALSE NEIGHBOUR: 'it returns false'. Refute it at one input. -/
def huffSizesWrong : ChangeSpec := { name := "huffSizes", fn := fun _ => fun
  | [d1, d2] => { results := [.lit (.bool false)], args := [d1, d2] }
  | _ => none }
def HuffSizesWrongFalsely : Prop := huffSizesRow.holds Try.pinned (OpenSpec.ofChange huffSizesWrong)

/-- 'nunciolaw10.HuffCodes': WHATEVER THE INPUT: true; the input reads as it did. -/
def huffCodesSpec : ChangeSpec := { name := "huffCodes", fn := fun _ => fun
  | [d] => { results := [.lit (.bool true)], args := [d] }
  | _ => none }
def huffCodesRow : OpenClaim := { program := "ytadnfcodaoflfaa", sum := "215c1972dd84bccebaa202a87f03f6ef7ee721308814b3f47bceaa09e6255314", func := "nuncio/nunciolaw10.HuffCodes", spec := "huffCodes", apart := false }
def HuffCodesSaid : Prop := huffCodesRow.holds Try.pinned (OpenSpec.ofChange huffCodesSpec)

/-- ITS FALSE NEIGHBOUR: 'it returns false'. Refute it at one input. -/
def huffCodesWrong : ChangeSpec := { name := "huffCodes", fn := fun _ => fun
  | [d] => { results := [.lit (.bool false)], args := [d] }
  | _ => none }
def HuffCodesWrongFalsely : Prop := huffCodesRow.holds Try.pinned (OpenSpec.ofChange huffCodesWrong)

/- THE SECOND FORM. 'bulk': how many values and letters a reading holds, each counted each time it is reached (what is shared counts as often as it is met; a slice's spare places count too). A statement '..UptoSaid' is the law's where the arguments, and the package variables that the reading takes, are together of bulk at most 1048576: NARROWER than '..Said'. Prove '..Said' where nothing that the law and all that it calls make is longer than what came in: it says more and counts as full. Else prove '..UptoSaid'. A law counts once. -/
mutual
def uptoBulk {H : Type} : DataW H → Nat
  | .lit (.string bytes) => bytes.length + 1
  | .lit _ => 1
  | .nil => 1
  | .ptr d => uptoBulk d + 1
  | .slice elems spare => uptoBulkAll elems + uptoBulkAll spare + 1
  | .agg parts => uptoBulkAll parts + 1
  | .iface _ d => uptoBulk d + 1
  | .map entries => uptoBulkEntries entries + 1
  | .held _ => 1
def uptoBulkAll {H : Type} : List (DataW H) → Nat
  | [] => 0
  | d :: r => uptoBulk d + uptoBulkAll r
def uptoBulkEntries {H : Type} : List (Lit × DataW H) → Nat
  | [] => 0
  | x :: r => uptoBulkEntry x + uptoBulkEntries r
def uptoBulkEntry {H : Type} : Lit × DataW H → Nat
  | (.string bytes, d) => bytes.length + uptoBulk d + 1
  | (_, d) => uptoBulk d + 1
 end
def uptoSmall : (H : Type) → List (DataW H) → Bool := fun _ ds => decide (uptoBulkAll ds ≤ 1048576)
def OpenSpec.upto (s : _root_.Go.ChangeSpec) : _root_.Go.OpenSpec := { _root_.Go.OpenSpec.ofChange s with cond := some uptoSmall }

/-- 'nunciolaw10.HuffEncodes', WHERE WHAT IT READS IS OF BULK AT MOST 1048576: true; the input reads as it did. -/
def huffEncodesUptoRow : OpenClaim := { program := "ytadnfcodaoflfaa", sum := "215c1972dd84bccebaa202a87f03f6ef7ee721308814b3f47bceaa09e6255314", func := "nuncio/nunciolaw10.HuffEncodes", spec := "huffEncodes", apart := false, narrowed := true }
def HuffEncodesUptoSaid : Prop := huffEncodesUptoRow.holds Try.pinned (OpenSpec.upto huffEncodesSpec)

/-- 'nunciolaw10.HuffDecodes', WHERE WHAT IT READS IS OF BULK AT MOST 1048576: true; the input reads as it did. -/
def huffDecodesUptoRow : OpenClaim := { program := "ytadnfcodaoflfaa", sum := "215c1972dd84bccebaa202a87f03f6ef7ee721308814b3f47bceaa09e6255314", func := "nuncio/nunciolaw10.HuffDecodes", spec := "huffDecodes", apart := false, narrowed := true }
def HuffDecodesUptoSaid : Prop := huffDecodesUptoRow.holds Try.pinned (OpenSpec.upto huffDecodesSpec)

/-- 'nunciolaw10.HuffBack', WHERE WHAT IT READS IS OF BULK AT MOST 1048576: true; the input reads as it did. -/
def huffBackUptoRow : OpenClaim := { program := "ytadnfcodaoflfaa", sum := "215c1972dd84bccebaa202a87f03f6ef7ee721308814b3f47bceaa09e6255314", func := "nuncio/nunciolaw10.HuffBack", spec := "huffBack", apart := false, narrowed := true }
def HuffBackUptoSaid : Prop := huffBackUptoRow.holds Try.pinned (OpenSpec.upto huffBackSpec)

/-- 'nunciolaw10.HuffWhole', WHERE WHAT IT READS IS OF BULK AT MOST 1048576: true; the input reads as it did. -/
def huffWholeUptoRow : OpenClaim := { program := "ytadnfcodaoflfaa", sum := "215c1972dd84bccebaa202a87f03f6ef7ee721308814b3f47bceaa09e6255314", func := "nuncio/nunciolaw10.HuffWhole", spec := "huffWhole", apart := false, narrowed := true }
def HuffWholeUptoSaid : Prop := huffWholeUptoRow.holds Try.pinned (OpenSpec.upto huffWholeSpec)

/-- 'nunciolaw10.HuffSizes', WHERE WHAT IT READS IS OF BULK AT MOST 1048576: true; the input reads as it did. -/
def huffSizesUptoRow : OpenClaim := { program := "ytadnfcodaoflfaa", sum := "215c1972dd84bccebaa202a87f03f6ef7ee721308814b3f47bceaa09e6255314", func := "nuncio/nunciolaw10.HuffSizes", spec := "huffSizes", apart := false, narrowed := true }
def HuffSizesUptoSaid : Prop := huffSizesUptoRow.holds Try.pinned (OpenSpec.upto huffSizesSpec)

/-- 'nunciolaw10.HuffCodes', WHERE WHAT IT READS IS OF BULK AT MOST 1048576: true; the input reads as it did. -/
def huffCodesUptoRow : OpenClaim := { program := "ytadnfcodaoflfaa", sum := "215c1972dd84bccebaa202a87f03f6ef7ee721308814b3f47bceaa09e6255314", func := "nuncio/nunciolaw10.HuffCodes", spec := "huffCodes", apart := false, narrowed := true }
def HuffCodesUptoSaid : Prop := huffCodesUptoRow.holds Try.pinned (OpenSpec.upto huffCodesSpec)

end Rows
end Go.Proofs.Ytadnfcodaoflfaa
