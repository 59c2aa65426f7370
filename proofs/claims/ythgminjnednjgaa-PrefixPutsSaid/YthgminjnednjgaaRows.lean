/-
  No cell of these rows narrows 'for every input' (looked for: loops, veiled, ifaces, maps, wideKeys, modest, calm, conditions, laid).
  DERIVED. THE GIVEN ROWS OF THIS SEAT. 5 by the template 'for every input the law returns true; each argument reads behind the call as it read before'; 0 by the template 'total and deterministic' (their statements: YthgminjnednjgaaTotals.lean).
  GIVEN WITH THE SEED: the statements are not yours to turn. If you find one false, say at which input.
  Laid BY PROGRAM, IN A SANDBOX (cutbox-rows.mjs): the forced cells as the released guide's own fill.sh prints them over the translation 80fc7a7aa7eae2a3… (all of the seat's roots in one cut). By AI agents, Wed Nov 11 2026. No macro, syntax, notation, axiom, sorry.
-/
import Derived.Test.YthgminjnednjgaaChecked
import GoSem.Claim
import GoSem.ClaimJoined
import GoSem.ClaimMapViews
import Derived.JoinedTies
import Derived.KernelRfl
namespace Go.Proofs.Ythgminjnednjgaa
/- THE CELL 'sum', in the pinned program and in every row, IS THE sha256 OF THE DUMP (.gsa) THAT YthgminjnednjgaaProg.lean LOADS. Nothing in Lean hashes anything: it is a label: what it is worth is what the hold of that sum in a sandbox is worth. -/
noncomputable def Try.pinned : Pinned := { name := "ythgminjnednjgaa", sum := "80fc7a7aa7eae2a313538170e4f8b4dcc0c32b38c7c581daf0b7a47859908a06", checked := Try.checked }
namespace Rows
def none {H : Type} : Left H := { results := [], args := [] }

/-- 'nunciolaw09.PrefixPuts': WHATEVER THE INPUT: true; the input reads as it did. -/
def prefixPutsSpec : ChangeSpec := { name := "prefixPuts", fn := fun _ => fun
  | [d1, d2, d3, d4] => { results := [.lit (.bool true)], args := [d1, d2, d3, d4] }
  | _ => none }
def prefixPutsRow : OpenClaim := { program := "ythgminjnednjgaa", sum := "80fc7a7aa7eae2a313538170e4f8b4dcc0c32b38c7c581daf0b7a47859908a06", func := "nuncio/nunciolaw09.PrefixPuts", spec := "prefixPuts", apart := false }
def PrefixPutsSaid : Prop := prefixPutsRow.holds Try.pinned (OpenSpec.ofChange prefixPutsSpec)

/-- ITS FALSE NEIGHBOUR: 'it returns false'. Refute it at one input. -/
def prefixPutsWrong : ChangeSpec := { name := "prefixPuts", fn := fun _ => fun
  | [d1, d2, d3, d4] => { results := [.lit (.bool false)], args := [d1, d2, d3, d4] }
  | _ => none }
def PrefixPutsWrongFalsely : Prop := prefixPutsRow.holds Try.pinned (OpenSpec.ofChange prefixPutsWrong)

/-- 'nunciolaw09.PrefixGets': WHATEVER THE INPUT: true; the input reads as it did. -/
def prefixGetsSpec : ChangeSpec := { name := "prefixGets", fn := fun _ => fun
  | [d1, d2, d3] => { results := [.lit (.bool true)], args := [d1, d2, d3] }
  | _ => none }
def prefixGetsRow : OpenClaim := { program := "ythgminjnednjgaa", sum := "80fc7a7aa7eae2a313538170e4f8b4dcc0c32b38c7c581daf0b7a47859908a06", func := "nuncio/nunciolaw09.PrefixGets", spec := "prefixGets", apart := false }
def PrefixGetsSaid : Prop := prefixGetsRow.holds Try.pinned (OpenSpec.ofChange prefixGetsSpec)

/-- ITS FALSE NEIGHBOUR: 'it returns false'. Refute it at one input. -/
def prefixGetsWrong : ChangeSpec := { name := "prefixGets", fn := fun _ => fun
  | [d1, d2, d3] => { results := [.lit (.bool false)], args := [d1, d2, d3] }
  | _ => none }
def PrefixGetsWrongFalsely : Prop := prefixGetsRow.holds Try.pinned (OpenSpec.ofChange prefixGetsWrong)

/-- 'nunciolaw09.PrefixBack': WHATEVER THE INPUT: true; the input reads as it did. -/
def prefixBackSpec : ChangeSpec := { name := "prefixBack", fn := fun _ => fun
  | [d1, d2, d3, d4, d5] => { results := [.lit (.bool true)], args := [d1, d2, d3, d4, d5] }
  | _ => none }
def prefixBackRow : OpenClaim := { program := "ythgminjnednjgaa", sum := "80fc7a7aa7eae2a313538170e4f8b4dcc0c32b38c7c581daf0b7a47859908a06", func := "nuncio/nunciolaw09.PrefixBack", spec := "prefixBack", apart := false }
def PrefixBackSaid : Prop := prefixBackRow.holds Try.pinned (OpenSpec.ofChange prefixBackSpec)

/-- ITS FALSE NEIGHBOUR: 'it returns false'. Refute it at one input. -/
def prefixBackWrong : ChangeSpec := { name := "prefixBack", fn := fun _ => fun
  | [d1, d2, d3, d4, d5] => { results := [.lit (.bool false)], args := [d1, d2, d3, d4, d5] }
  | _ => none }
def PrefixBackWrongFalsely : Prop := prefixBackRow.holds Try.pinned (OpenSpec.ofChange prefixBackWrong)

/-- 'nunciolaw09.PrefixLeast': WHATEVER THE INPUT: true; the input reads as it did. -/
def prefixLeastSpec : ChangeSpec := { name := "prefixLeast", fn := fun _ => fun
  | [d1, d2] => { results := [.lit (.bool true)], args := [d1, d2] }
  | _ => none }
def prefixLeastRow : OpenClaim := { program := "ythgminjnednjgaa", sum := "80fc7a7aa7eae2a313538170e4f8b4dcc0c32b38c7c581daf0b7a47859908a06", func := "nuncio/nunciolaw09.PrefixLeast", spec := "prefixLeast", apart := false }
def PrefixLeastSaid : Prop := prefixLeastRow.holds Try.pinned (OpenSpec.ofChange prefixLeastSpec)

/-- ITS FALSE NEIGHBOUR: 'it returns false'. Refute it at one input. -/
def prefixLeastWrong : ChangeSpec := { name := "prefixLeast", fn := fun _ => fun
  | [d1, d2] => { results := [.lit (.bool false)], args := [d1, d2] }
  | _ => none }
def PrefixLeastWrongFalsely : Prop := prefixLeastRow.holds Try.pinned (OpenSpec.ofChange prefixLeastWrong)

/-- 'nunciolaw09.PrefixOrder': WHATEVER THE INPUT: true; the input reads as it did. -/
def prefixOrderSpec : ChangeSpec := { name := "prefixOrder", fn := fun _ => fun
  | [d1, d2, d3] => { results := [.lit (.bool true)], args := [d1, d2, d3] }
  | _ => none }
def prefixOrderRow : OpenClaim := { program := "ythgminjnednjgaa", sum := "80fc7a7aa7eae2a313538170e4f8b4dcc0c32b38c7c581daf0b7a47859908a06", func := "nuncio/nunciolaw09.PrefixOrder", spec := "prefixOrder", apart := false }
def PrefixOrderSaid : Prop := prefixOrderRow.holds Try.pinned (OpenSpec.ofChange prefixOrderSpec)

/-- ITS FALSE NEIGHBOUR: 'it returns false'. Refute it at one input. -/
def prefixOrderWrong : ChangeSpec := { name := "prefixOrder", fn := fun _ => fun
  | [d1, d2, d3] => { results := [.lit (.bool false)], args := [d1, d2, d3] }
  | _ => none }
def PrefixOrderWrongFalsely : Prop := prefixOrderRow.holds Try.pinned (OpenSpec.ofChange prefixOrderWrong)

/- THE SECOND FORM. 'bulk': how many values and letters a reading holds, each counted each time it is reached (what is shared counts as often as it is met; a slice's spare places count too). A statement '..UptoSaid' is the law's where the arguments, and the package variables that the reading takes, are together of bulk at most 1048576: NARROWER than '..Said'. Prove '..Said' where nothing that the law and all that it calls make is longer than what came in: it says more and counts as full. Else prove '..UptoSaid'. A law counts once. -/
mutual
def uptoBulk {H : Type} : DataW H → Nat
  | .lit (.string bytes) => bytes.length + 1
  | .lit _ => 1
  | .nil => 1
  | .ptr d => uptoBulk d + 1
  | .slice elems spare => uptoBulkAll elems + uptoBulkAll spare + 1
  | .agg parts => uptoBulkAll parts + 1
  | .iface _ d => uptoBulk d + 1
  | .map entries => uptoBulkEntries entries + 1
  | .held _ => 1
def uptoBulkAll {H : Type} : List (DataW H) → Nat
  | [] => 0
  | d :: r => uptoBulk d + uptoBulkAll r
def uptoBulkEntries {H : Type} : List (Lit × DataW H) → Nat
  | [] => 0
  | x :: r => uptoBulkEntry x + uptoBulkEntries r
def uptoBulkEntry {H : Type} : Lit × DataW H → Nat
  | (.string bytes, d) => bytes.length + uptoBulk d + 1
  | (_, d) => uptoBulk d + 1
 end
def uptoSmall : (H : Type) → List (DataW H) → Bool := fun _ ds => decide (uptoBulkAll ds ≤ 1048576)
def OpenSpec.upto (s : _root_.Go.ChangeSpec) : _root_.Go.OpenSpec := { _root_.Go.OpenSpec.ofChange s with cond := some uptoSmall }

/-- 'nunciolaw09.PrefixPuts', WHERE WHAT IT READS IS OF BULK AT MOST 1048576: true; the input reads as it did. -/
def prefixPutsUptoRow : OpenClaim := { program := "ythgminjnednjgaa", sum := "80fc7a7aa7eae2a313538170e4f8b4dcc0c32b38c7c581daf0b7a47859908a06", func := "nuncio/nunciolaw09.PrefixPuts", spec := "prefixPuts", apart := false, narrowed := true }
def PrefixPutsUptoSaid : Prop := prefixPutsUptoRow.holds Try.pinned (OpenSpec.upto prefixPutsSpec)

/-- 'nunciolaw09.PrefixGets', WHERE WHAT IT READS IS OF BULK AT MOST 1048576: true; the input reads as it did. -/
def prefixGetsUptoRow : OpenClaim := { program := "ythgminjnednjgaa", sum := "80fc7a7aa7eae2a313538170e4f8b4dcc0c32b38c7c581daf0b7a47859908a06", func := "nuncio/nunciolaw09.PrefixGets", spec := "prefixGets", apart := false, narrowed := true }
def PrefixGetsUptoSaid : Prop := prefixGetsUptoRow.holds Try.pinned (OpenSpec.upto prefixGetsSpec)

/-- 'nunciolaw09.PrefixBack', WHERE WHAT IT READS IS OF BULK AT MOST 1048576: true; the input reads as it did. -/
def prefixBackUptoRow : OpenClaim := { program := "ythgminjnednjgaa", sum := "80fc7a7aa7eae2a313538170e4f8b4dcc0c32b38c7c581daf0b7a47859908a06", func := "nuncio/nunciolaw09.PrefixBack", spec := "prefixBack", apart := false, narrowed := true }
def PrefixBackUptoSaid : Prop := prefixBackUptoRow.holds Try.pinned (OpenSpec.upto prefixBackSpec)

/-- 'nunciolaw09.PrefixLeast', WHERE WHAT IT READS IS OF BULK AT MOST 1048576: true; the input reads as it did. -/
def prefixLeastUptoRow : OpenClaim := { program := "ythgminjnednjgaa", sum := "80fc7a7aa7eae2a313538170e4f8b4dcc0c32b38c7c581daf0b7a47859908a06", func := "nuncio/nunciolaw09.PrefixLeast", spec := "prefixLeast", apart := false, narrowed := true }
def PrefixLeastUptoSaid : Prop := prefixLeastUptoRow.holds Try.pinned (OpenSpec.upto prefixLeastSpec)

/-- 'nunciolaw09.PrefixOrder', WHERE WHAT IT READS IS OF BULK AT MOST 1048576: true; the input reads as it did. -/
def prefixOrderUptoRow : OpenClaim := { program := "ythgminjnednjgaa", sum := "80fc7a7aa7eae2a313538170e4f8b4dcc0c32b38c7c581daf0b7a47859908a06", func := "nuncio/nunciolaw09.PrefixOrder", spec := "prefixOrder", apart := false, narrowed := true }
def PrefixOrderUptoSaid : Prop := prefixOrderUptoRow.holds Try.pinned (OpenSpec.upto prefixOrderSpec)

end Rows
end Go.Proofs.Ythgminjnednjgaa
