/-
  No cell of these rows narrows 'for every input' (looked for: loops, veiled, ifaces, maps, wideKeys, modest, calm, conditions, laid).
  DERIVED. THE GIVEN ROWS OF THIS SEAT. 5 by the template 'for every input the law returns true; each argument reads behind the call as it read before'; 0 by the template 'total and deterministic' (their statements: YtihjecnkecgckaaTotals.lean).
  GIVEN WITH THE SEED: the statements are not yours to turn. If you find one false, say at which input.
  Laid BY PROGRAM, IN A SANDBOX (cutbox-rows.mjs): the forced cells as the released guide's own fill.sh prints them over the translation 20cdcda14481fa8e… (all of the seat's roots in one cut). By AI agents, Wed Nov 11 2026. No macro, syntax, notation, axiom, sorry.
-/
import Derived.Test.YtihjecnkecgckaaChecked
import GoSem.Claim
import GoSem.ClaimJoined
import GoSem.ClaimMapViews
import Derived.JoinedTies
import Derived.KernelRfl
namespace Go.Proofs.Ytihjecnkecgckaa
/- THE CELL 'sum', in the pinned program and in every row, IS THE sha256 OF THE DUMP (.gsa) THAT YtihjecnkecgckaaProg.lean LOADS. Nothing in Lean hashes anything: it is a label: what it is worth is what the hold of that sum in a sandbox is worth. -/
noncomputable def Try.pinned : Pinned := { name := "ytihjecnkecgckaa", sum := "20cdcda14481fa8e177421576453735eda0a2ec88a0705557fb65d6e6258759b", checked := Try.checked }
namespace Rows
def none {H : Type} : Left H := { results := [], args := [] }

/-- 'nunciolaw01.NumBack': WHATEVER THE INPUT: true; the input reads as it did. -/
def numBackSpec : ChangeSpec := { name := "numBack", fn := fun _ => fun
  | [d1, d2, d3] => { results := [.lit (.bool true)], args := [d1, d2, d3] }
  | _ => none }
def numBackRow : OpenClaim := { program := "ytihjecnkecgckaa", sum := "20cdcda14481fa8e177421576453735eda0a2ec88a0705557fb65d6e6258759b", func := "nuncio/nunciolaw01.NumBack", spec := "numBack", apart := false }
def NumBackSaid : Prop := numBackRow.holds Try.pinned (OpenSpec.ofChange numBackSpec)

/-- ITS FALSE NEIGHBOUR: 'it returns false'. Refute it at one input. -/
def numBackWrong : ChangeSpec := { name := "numBack", fn := fun _ => fun
  | [d1, d2, d3] => { results := [.lit (.bool false)], args := [d1, d2, d3] }
  | _ => none }
def NumBackWrongFalsely : Prop := numBackRow.holds Try.pinned (OpenSpec.ofChange numBackWrong)

/-- 'nunciolaw01.NumSums': WHATEVER THE INPUT: true; the input reads as it did. -/
def numSumsSpec : ChangeSpec := { name := "numSums", fn := fun _ => fun
  | [d1, d2] => { results := [.lit (.bool true)], args := [d1, d2] }
  | _ => none }
def numSumsRow : OpenClaim := { program := "ytihjecnkecgckaa", sum := "20cdcda14481fa8e177421576453735eda0a2ec88a0705557fb65d6e6258759b", func := "nuncio/nunciolaw01.NumSums", spec := "numSums", apart := false }
def NumSumsSaid : Prop := numSumsRow.holds Try.pinned (OpenSpec.ofChange numSumsSpec)

/-- ITS FALSE NEIGHBOUR: 'it returns false'. Refute it at one input. -/
def numSumsWrong : ChangeSpec := { name := "numSums", fn := fun _ => fun
  | [d1, d2] => { results := [.lit (.bool false)], args := [d1, d2] }
  | _ => none }
def NumSumsWrongFalsely : Prop := numSumsRow.holds Try.pinned (OpenSpec.ofChange numSumsWrong)

/-- 'nunciolaw01.NumStays': WHATEVER THE INPUT: true; the input reads as it did. -/
def numStaysSpec : ChangeSpec := { name := "numStays", fn := fun _ => fun
  | [d1, d2, d3] => { results := [.lit (.bool true)], args := [d1, d2, d3] }
  | _ => none }
def numStaysRow : OpenClaim := { program := "ytihjecnkecgckaa", sum := "20cdcda14481fa8e177421576453735eda0a2ec88a0705557fb65d6e6258759b", func := "nuncio/nunciolaw01.NumStays", spec := "numStays", apart := false }
def NumStaysSaid : Prop := numStaysRow.holds Try.pinned (OpenSpec.ofChange numStaysSpec)

/-- ITS FALSE NEIGHBOUR: 'it returns false'. Refute it at one input. -/
def numStaysWrong : ChangeSpec := { name := "numStays", fn := fun _ => fun
  | [d1, d2, d3] => { results := [.lit (.bool false)], args := [d1, d2, d3] }
  | _ => none }
def NumStaysWrongFalsely : Prop := numStaysRow.holds Try.pinned (OpenSpec.ofChange numStaysWrong)

/-- 'nunciolaw01.NumParts': WHATEVER THE INPUT: true; the input reads as it did. -/
def numPartsSpec : ChangeSpec := { name := "numParts", fn := fun _ => fun
  | [d1, d2] => { results := [.lit (.bool true)], args := [d1, d2] }
  | _ => none }
def numPartsRow : OpenClaim := { program := "ytihjecnkecgckaa", sum := "20cdcda14481fa8e177421576453735eda0a2ec88a0705557fb65d6e6258759b", func := "nuncio/nunciolaw01.NumParts", spec := "numParts", apart := false }
def NumPartsSaid : Prop := numPartsRow.holds Try.pinned (OpenSpec.ofChange numPartsSpec)

/-- ITS FALSE NEIGHBOUR: 'it returns false'. Refute it at one input. -/
def numPartsWrong : ChangeSpec := { name := "numParts", fn := fun _ => fun
  | [d1, d2] => { results := [.lit (.bool false)], args := [d1, d2] }
  | _ => none }
def NumPartsWrongFalsely : Prop := numPartsRow.holds Try.pinned (OpenSpec.ofChange numPartsWrong)

/-- 'nunciolaw01.NumReads': WHATEVER THE INPUT: true; the input reads as it did. -/
def numReadsSpec : ChangeSpec := { name := "numReads", fn := fun _ => fun
  | [d1, d2] => { results := [.lit (.bool true)], args := [d1, d2] }
  | _ => none }
def numReadsRow : OpenClaim := { program := "ytihjecnkecgckaa", sum := "20cdcda14481fa8e177421576453735eda0a2ec88a0705557fb65d6e6258759b", func := "nuncio/nunciolaw01.NumReads", spec := "numReads", unfollowed := true, recurses := true, apart := false }
def NumReadsSaid : Prop := numReadsRow.holds Try.pinned (OpenSpec.ofChange numReadsSpec)

/-- ITS FALSE NEIGHBOUR: 'it returns false'. Refute it at one input. -/
def numReadsWrong : ChangeSpec := { name := "numReads", fn := fun _ => fun
  | [d1, d2] => { results := [.lit (.bool false)], args := [d1, d2] }
  | _ => none }
def NumReadsWrongFalsely : Prop := numReadsRow.holds Try.pinned (OpenSpec.ofChange numReadsWrong)

/- THE SECOND FORM. 'bulk': how many values and letters a reading holds, each counted each time it is reached (what is shared counts as often as it is met; a slice's spare places count too). A statement '..UptoSaid' is the law's where the arguments, and the package variables that the reading takes, are together of bulk at most 1048576: NARROWER than '..Said'. Prove '..Said' where nothing that the law and all that it calls make is longer than what came in: it says more and counts as full. Else prove '..UptoSaid'. A law counts once. -/
mutual
def uptoBulk {H : Type} : DataW H → Nat
  | .lit (.string bytes) => bytes.length + 1
  | .lit _ => 1
  | .nil => 1
  | .ptr d => uptoBulk d + 1
  | .slice elems spare => uptoBulkAll elems + uptoBulkAll spare + 1
  | .agg parts => uptoBulkAll parts + 1
  | .iface _ d => uptoBulk d + 1
  | .map entries => uptoBulkEntries entries + 1
  | .held _ => 1
def uptoBulkAll {H : Type} : List (DataW H) → Nat
  | [] => 0
  | d :: r => uptoBulk d + uptoBulkAll r
def uptoBulkEntries {H : Type} : List (Lit × DataW H) → Nat
  | [] => 0
  | x :: r => uptoBulkEntry x + uptoBulkEntries r
def uptoBulkEntry {H : Type} : Lit × DataW H → Nat
  | (.string bytes, d) => bytes.length + uptoBulk d + 1
  | (_, d) => uptoBulk d + 1
 end
def uptoSmall : (H : Type) → List (DataW H) → Bool := fun _ ds => decide (uptoBulkAll ds ≤ 1048576)
def OpenSpec.upto (s : _root_.Go.ChangeSpec) : _root_.Go.OpenSpec := { _root_.Go.OpenSpec.ofChange s with cond := some uptoSmall }

/-- 'nunciolaw01.NumBack', WHERE WHAT IT READS IS OF BULK AT MOST 1048576: true; the input reads as it did. -/
def numBackUptoRow : OpenClaim := { program := "ytihjecnkecgckaa", sum := "20cdcda14481fa8e177421576453735eda0a2ec88a0705557fb65d6e6258759b", func := "nuncio/nunciolaw01.NumBack", spec := "numBack", apart := false, narrowed := true }
def NumBackUptoSaid : Prop := numBackUptoRow.holds Try.pinned (OpenSpec.upto numBackSpec)

/-- 'nunciolaw01.NumSums', WHERE WHAT IT READS IS OF BULK AT MOST 1048576: true; the input reads as it did. -/
def numSumsUptoRow : OpenClaim := { program := "ytihjecnkecgckaa", sum := "20cdcda14481fa8e177421576453735eda0a2ec88a0705557fb65d6e6258759b", func := "nuncio/nunciolaw01.NumSums", spec := "numSums", apart := false, narrowed := true }
def NumSumsUptoSaid : Prop := numSumsUptoRow.holds Try.pinned (OpenSpec.upto numSumsSpec)

/-- 'nunciolaw01.NumStays', WHERE WHAT IT READS IS OF BULK AT MOST 1048576: true; the input reads as it did. -/
def numStaysUptoRow : OpenClaim := { program := "ytihjecnkecgckaa", sum := "20cdcda14481fa8e177421576453735eda0a2ec88a0705557fb65d6e6258759b", func := "nuncio/nunciolaw01.NumStays", spec := "numStays", apart := false, narrowed := true }
def NumStaysUptoSaid : Prop := numStaysUptoRow.holds Try.pinned (OpenSpec.upto numStaysSpec)

/-- 'nunciolaw01.NumParts', WHERE WHAT IT READS IS OF BULK AT MOST 1048576: true; the input reads as it did. -/
def numPartsUptoRow : OpenClaim := { program := "ytihjecnkecgckaa", sum := "20cdcda14481fa8e177421576453735eda0a2ec88a0705557fb65d6e6258759b", func := "nuncio/nunciolaw01.NumParts", spec := "numParts", apart := false, narrowed := true }
def NumPartsUptoSaid : Prop := numPartsUptoRow.holds Try.pinned (OpenSpec.upto numPartsSpec)

/-- 'nunciolaw01.NumReads', WHERE WHAT IT READS IS OF BULK AT MOST 1048576: true; the input reads as it did. -/
def numReadsUptoRow : OpenClaim := { program := "ytihjecnkecgckaa", sum := "20cdcda14481fa8e177421576453735eda0a2ec88a0705557fb65d6e6258759b", func := "nuncio/nunciolaw01.NumReads", spec := "numReads", unfollowed := true, recurses := true, apart := false, narrowed := true }
def NumReadsUptoSaid : Prop := numReadsUptoRow.holds Try.pinned (OpenSpec.upto numReadsSpec)

end Rows
end Go.Proofs.Ytihjecnkecgckaa
