/-
  No cell of these rows narrows 'for every input' (looked for: loops, veiled, ifaces, maps, wideKeys, modest, calm, conditions, laid).
  DERIVED. THE GIVEN ROWS OF THIS SEAT. 4 by the template 'for every input the law returns true; each argument reads behind the call as it read before'; 0 by the template 'total and deterministic' (their statements: YtebnbjnkameicaaTotals.lean).
  GIVEN WITH THE SEED: the statements are not yours to turn. If you find one false, say at which input.
  Laid BY PROGRAM, IN A SANDBOX (cutbox-rows.mjs): the forced cells as the released guide's own fill.sh prints them over the translation a21a4b328317c461… (all of the seat's roots in one cut). By AI agents, Wed Nov 11 2026. No macro, syntax, notation, axiom, sorry.
-/
import Derived.Test.YtebnbjnkameicaaChecked
import GoSem.Claim
import GoSem.ClaimJoined
import GoSem.ClaimMapViews
import Derived.JoinedTies
import Derived.KernelRfl
namespace Go.Proofs.Ytebnbjnkameicaa
/- THE CELL 'sum', in the pinned program and in every row, IS THE sha256 OF THE DUMP (.gsa) THAT YtebnbjnkameicaaProg.lean LOADS. Nothing in Lean hashes anything: it is a label: what it is worth is what the hold of that sum in a sandbox is worth. -/
noncomputable def Try.pinned : Pinned := { name := "ytebnbjnkameicaa", sum := "a21a4b328317c4613df39736c36dabe70e33b2465e11ef68d9ee145d346ecb22", checked := Try.checked }
namespace Rows
def none {H : Type} : Left H := { results := [], args := [] }

/-- 'nunciolaw05.DataChecks': WHATEVER THE INPUT: true; the input reads as it did. -/
def dataChecksSpec : ChangeSpec := { name := "dataChecks", fn := fun _ => fun
  | [d1, d2] => { results := [.lit (.bool true)], args := [d1, d2] }
  | _ => none }
def dataChecksRow : OpenClaim := { program := "ytebnbjnkameicaa", sum := "a21a4b328317c4613df39736c36dabe70e33b2465e11ef68d9ee145d346ecb22", func := "nuncio/nunciolaw05.DataChecks", spec := "dataChecks", unfollowed := true, recurses := true, apart := false }
def DataChecksSaid : Prop := dataChecksRow.holds Try.pinned (OpenSpec.ofChange dataChecksSpec)

/-- ITS FALSE NEIGHBOUR: 'it returns false'. Refute it at one input. -/
def dataChecksWrong : ChangeSpec := { name := "dataChecks", fn := fun _ => fun
  | [d1, d2] => { results := [.lit (.bool false)], args := [d1, d2] }
  | _ => none }
def DataChecksWrongFalsely : Prop := dataChecksRow.holds Try.pinned (OpenSpec.ofChange dataChecksWrong)

/-- 'nunciolaw05.DataSame': WHATEVER THE INPUT: true; the input reads as it did. -/
def dataSameSpec : ChangeSpec := { name := "dataSame", fn := fun _ => fun
  | [d1, d2] => { results := [.lit (.bool true)], args := [d1, d2] }
  | _ => none }
def dataSameRow : OpenClaim := { program := "ytebnbjnkameicaa", sum := "a21a4b328317c4613df39736c36dabe70e33b2465e11ef68d9ee145d346ecb22", func := "nuncio/nunciolaw05.DataSame", spec := "dataSame", unfollowed := true, recurses := true, apart := false }
def DataSameSaid : Prop := dataSameRow.holds Try.pinned (OpenSpec.ofChange dataSameSpec)

/-- ITS FALSE NEIGHBOUR: 'it returns false'. Refute it at one input. -/
def dataSameWrong : ChangeSpec := { name := "dataSame", fn := fun _ => fun
  | [d1, d2] => { results := [.lit (.bool false)], args := [d1, d2] }
  | _ => none }
def DataSameWrongFalsely : Prop := dataSameRow.holds Try.pinned (OpenSpec.ofChange dataSameWrong)

/-- 'nunciolaw05.DataOne': WHATEVER THE INPUT: true; the input reads as it did. -/
def dataOneSpec : ChangeSpec := { name := "dataOne", fn := fun _ => fun
  | [d1, d2] => { results := [.lit (.bool true)], args := [d1, d2] }
  | _ => none }
def dataOneRow : OpenClaim := { program := "ytebnbjnkameicaa", sum := "a21a4b328317c4613df39736c36dabe70e33b2465e11ef68d9ee145d346ecb22", func := "nuncio/nunciolaw05.DataOne", spec := "dataOne", unfollowed := true, recurses := true, apart := false }
def DataOneSaid : Prop := dataOneRow.holds Try.pinned (OpenSpec.ofChange dataOneSpec)

/-- ITS FALSE NEIGHBOUR: 'it returns false'. Refute it at one input. -/
def dataOneWrong : ChangeSpec := { name := "dataOne", fn := fun _ => fun
  | [d1, d2] => { results := [.lit (.bool false)], args := [d1, d2] }
  | _ => none }
def DataOneWrongFalsely : Prop := dataOneRow.holds Try.pinned (OpenSpec.ofChange dataOneWrong)

/-- 'nunciolaw05.DataLimits': WHATEVER THE INPUT: true; the input reads as it did. -/
def dataLimitsSpec : ChangeSpec := { name := "dataLimits", fn := fun _ => fun
  | [d1, d2] => { results := [.lit (.bool true)], args := [d1, d2] }
  | _ => none }
def dataLimitsRow : OpenClaim := { program := "ytebnbjnkameicaa", sum := "a21a4b328317c4613df39736c36dabe70e33b2465e11ef68d9ee145d346ecb22", func := "nuncio/nunciolaw05.DataLimits", spec := "dataLimits", unfollowed := true, recurses := true, apart := false }
def DataLimitsSaid : Prop := dataLimitsRow.holds Try.pinned (OpenSpec.ofChange dataLimitsSpec)

/-- ITS FALSE NEIGHBOUR: 'it returns false'. Refute it at one input. -/
def dataLimitsWrong : ChangeSpec := { name := "dataLimits", fn := fun _ => fun
  | [d1, d2] => { results := [.lit (.bool false)], args := [d1, d2] }
  | _ => none }
def DataLimitsWrongFalsely : Prop := dataLimitsRow.holds Try.pinned (OpenSpec.ofChange dataLimitsWrong)

/- THE SECOND FORM. 'bulk': how many values and letters a reading holds, each counted each time it is reached (what is shared counts as often as it is met; a slice's spare places count too). A statement '..UptoSaid' is the law's where the arguments, and the package variables that the reading takes, are together of bulk at most 1048576: NARROWER than '..Said'. Prove '..Said' where nothing that the law and all that it calls make is longer than what came in: it says more and counts as full. Else prove '..UptoSaid'. A law counts once. -/
mutual
def uptoBulk {H : Type} : DataW H → Nat
  | .lit (.string bytes) => bytes.length + 1
  | .lit _ => 1
  | .nil => 1
  | .ptr d => uptoBulk d + 1
  | .slice elems spare => uptoBulkAll elems + uptoBulkAll spare + 1
  | .agg parts => uptoBulkAll parts + 1
  | .iface _ d => uptoBulk d + 1
  | .map entries => uptoBulkEntries entries + 1
  | .held _ => 1
def uptoBulkAll {H : Type} : List (DataW H) → Nat
  | [] => 0
  | d :: r => uptoBulk d + uptoBulkAll r
def uptoBulkEntries {H : Type} : List (Lit × DataW H) → Nat
  | [] => 0
  | x :: r => uptoBulkEntry x + uptoBulkEntries r
def uptoBulkEntry {H : Type} : Lit × DataW H → Nat
  | (.string bytes, d) => bytes.length + uptoBulk d + 1
  | (_, d) => uptoBulk d + 1
 end
def uptoSmall : (H : Type) → List (DataW H) → Bool := fun _ ds => decide (uptoBulkAll ds ≤ 1048576)
def OpenSpec.upto (s : _root_.Go.ChangeSpec) : _root_.Go.OpenSpec := { _root_.Go.OpenSpec.ofChange s with cond := some uptoSmall }

/-- 'nunciolaw05.DataChecks', WHERE WHAT IT READS IS OF BULK AT MOST 1048576: true; the input reads as it did. -/
def dataChecksUptoRow : OpenClaim := { program := "ytebnbjnkameicaa", sum := "a21a4b328317c4613df39736c36dabe70e33b2465e11ef68d9ee145d346ecb22", func := "nuncio/nunciolaw05.DataChecks", spec := "dataChecks", unfollowed := true, recurses := true, apart := false, narrowed := true }
def DataChecksUptoSaid : Prop := dataChecksUptoRow.holds Try.pinned (OpenSpec.upto dataChecksSpec)

/-- 'nunciolaw05.DataSame', WHERE WHAT IT READS IS OF BULK AT MOST 1048576: true; the input reads as it did. -/
def dataSameUptoRow : OpenClaim := { program := "ytebnbjnkameicaa", sum := "a21a4b328317c4613df39736c36dabe70e33b2465e11ef68d9ee145d346ecb22", func := "nuncio/nunciolaw05.DataSame", spec := "dataSame", unfollowed := true, recurses := true, apart := false, narrowed := true }
def DataSameUptoSaid : Prop := dataSameUptoRow.holds Try.pinned (OpenSpec.upto dataSameSpec)

/-- 'nunciolaw05.DataOne', WHERE WHAT IT READS IS OF BULK AT MOST 1048576: true; the input reads as it did. -/
def dataOneUptoRow : OpenClaim := { program := "ytebnbjnkameicaa", sum := "a21a4b328317c4613df39736c36dabe70e33b2465e11ef68d9ee145d346ecb22", func := "nuncio/nunciolaw05.DataOne", spec := "dataOne", unfollowed := true, recurses := true, apart := false, narrowed := true }
def DataOneUptoSaid : Prop := dataOneUptoRow.holds Try.pinned (OpenSpec.upto dataOneSpec)

/-- 'nunciolaw05.DataLimits', WHERE WHAT IT READS IS OF BULK AT MOST 1048576: true; the input reads as it did. -/
def dataLimitsUptoRow : OpenClaim := { program := "ytebnbjnkameicaa", sum := "a21a4b328317c4613df39736c36dabe70e33b2465e11ef68d9ee145d346ecb22", func := "nuncio/nunciolaw05.DataLimits", spec := "dataLimits", unfollowed := true, recurses := true, apart := false, narrowed := true }
def DataLimitsUptoSaid : Prop := dataLimitsUptoRow.holds Try.pinned (OpenSpec.upto dataLimitsSpec)

end Rows
end Go.Proofs.Ytebnbjnkameicaa
