/-
  No cell of these rows narrows 'for every input' (looked for: loops, veiled, ifaces, maps, wideKeys, modest, calm, conditions, laid).
  DERIVED. THE GIVEN ROWS OF THIS SEAT. 6 by the template 'for every input the law returns true; each argument reads behind the call as it read before'; 0 by the template 'total and deterministic' (their statements: YthkdfnbhlinhiaaTotals.lean).
  GIVEN WITH THE SEED: the statements are not yours to turn. If you find one false, say at which input.
  Laid BY PROGRAM, IN A SANDBOX (cutbox-rows.mjs): the forced cells as the released guide's own fill.sh prints them over the translation 4e71b5ecfa1a27e1… (all of the seat's roots in one cut). By AI agents, Wed Nov 11 2026. No macro, syntax, notation, axiom, sorry.
-/
import Derived.Test.YthkdfnbhlinhiaaChecked
import GoSem.Claim
import GoSem.ClaimJoined
import GoSem.ClaimMapViews
import Derived.JoinedTies
import Derived.KernelRfl
namespace Go.Proofs.Ythkdfnbhlinhiaa
/- THE CELL 'sum', in the pinned program and in every row, IS THE sha256 OF THE DUMP (.gsa) THAT YthkdfnbhlinhiaaProg.lean LOADS. Nothing in Lean hashes anything: it is a label: what it is worth is what the hold of that sum in a sandbox is worth. -/
noncomputable def Try.pinned : Pinned := { name := "ythkdfnbhlinhiaa", sum := "4e71b5ecfa1a27e1ad72a24572668c01c9a0af98ac720280d4a2f1f06e377033", checked := Try.checked }
namespace Rows
def none {H : Type} : Left H := { results := [], args := [] }

/-- 'nunciolaw08.QueryAsks': WHATEVER THE INPUT: true; the input reads as it did. -/
def queryAsksSpec : ChangeSpec := { name := "queryAsks", fn := fun _ => fun
  | [d1, d2, d3] => { results := [.lit (.bool true)], args := [d1, d2, d3] }
  | _ => none }
def queryAsksRow : OpenClaim := { program := "ythkdfnbhlinhiaa", sum := "4e71b5ecfa1a27e1ad72a24572668c01c9a0af98ac720280d4a2f1f06e377033", func := "nuncio/nunciolaw08.QueryAsks", spec := "queryAsks", unfollowed := true, recurses := true, apart := false }
def QueryAsksSaid : Prop := queryAsksRow.holds Try.pinned (OpenSpec.ofChange queryAsksSpec)

/-- ITS FALSE NEIGHBOUR: 'it returns false'. Refute it at one input. -/
def queryAsksWrong : ChangeSpec := { name := "queryAsks", fn := fun _ => fun
  | [d1, d2, d3] => { results := [.lit (.bool false)], args := [d1, d2, d3] }
  | _ => none }
def QueryAsksWrongFalsely : Prop := queryAsksRow.holds Try.pinned (OpenSpec.ofChange queryAsksWrong)

/-- 'nunciolaw08.QueryHolds': WHATEVER THE INPUT: true; the input reads as it did. -/
def queryHoldsSpec : ChangeSpec := { name := "queryHolds", fn := fun _ => fun
  | [d] => { results := [.lit (.bool true)], args := [d] }
  | _ => none }
def queryHoldsRow : OpenClaim := { program := "ythkdfnbhlinhiaa", sum := "4e71b5ecfa1a27e1ad72a24572668c01c9a0af98ac720280d4a2f1f06e377033", func := "nuncio/nunciolaw08.QueryHolds", spec := "queryHolds", unfollowed := true, recurses := true, apart := false }
def QueryHoldsSaid : Prop := queryHoldsRow.holds Try.pinned (OpenSpec.ofChange queryHoldsSpec)

/-- ITS FALSE NEIGHBOUR: 'it returns false'. Refute it at one input. -/
def queryHoldsWrong : ChangeSpec := { name := "queryHolds", fn := fun _ => fun
  | [d] => { results := [.lit (.bool false)], args := [d] }
  | _ => none }
def QueryHoldsWrongFalsely : Prop := queryHoldsRow.holds Try.pinned (OpenSpec.ofChange queryHoldsWrong)

/-- 'nunciolaw08.QueryAges': WHATEVER THE INPUT: true; the input reads as it did. -/
def queryAgesSpec : ChangeSpec := { name := "queryAges", fn := fun _ => fun
  | [d1, d2, d3] => { results := [.lit (.bool true)], args := [d1, d2, d3] }
  | _ => none }
def queryAgesRow : OpenClaim := { program := "ythkdfnbhlinhiaa", sum := "4e71b5ecfa1a27e1ad72a24572668c01c9a0af98ac720280d4a2f1f06e377033", func := "nuncio/nunciolaw08.QueryAges", spec := "queryAges", unfollowed := true, recurses := true, apart := false }
def QueryAgesSaid : Prop := queryAgesRow.holds Try.pinned (OpenSpec.ofChange queryAgesSpec)

/-- ITS FALSE NEIGHBOUR: 'it returns false'. Refute it at one input. -/
def queryAgesWrong : ChangeSpec := { name := "queryAges", fn := fun _ => fun
  | [d1, d2, d3] => { results := [.lit (.bool false)], args := [d1, d2, d3] }
  | _ => none }
def QueryAgesWrongFalsely : Prop := queryAgesRow.holds Try.pinned (OpenSpec.ofChange queryAgesWrong)

/-- 'nunciolaw08.QueryBack': WHATEVER THE INPUT: true; the input reads as it did. -/
def queryBackSpec : ChangeSpec := { name := "queryBack", fn := fun _ => fun
  | [d1, d2, d3, d4, d5] => { results := [.lit (.bool true)], args := [d1, d2, d3, d4, d5] }
  | _ => none }
def queryBackRow : OpenClaim := { program := "ythkdfnbhlinhiaa", sum := "4e71b5ecfa1a27e1ad72a24572668c01c9a0af98ac720280d4a2f1f06e377033", func := "nuncio/nunciolaw08.QueryBack", spec := "queryBack", unfollowed := true, recurses := true, apart := false }
def QueryBackSaid : Prop := queryBackRow.holds Try.pinned (OpenSpec.ofChange queryBackSpec)

/-- ITS FALSE NEIGHBOUR: 'it returns false'. Refute it at one input. -/
def queryBackWrong : ChangeSpec := { name := "queryBack", fn := fun _ => fun
  | [d1, d2, d3, d4, d5] => { results := [.lit (.bool false)], args := [d1, d2, d3, d4, d5] }
  | _ => none }
def QueryBackWrongFalsely : Prop := queryBackRow.holds Try.pinned (OpenSpec.ofChange queryBackWrong)

/-- 'nunciolaw08.QueryTime': WHATEVER THE INPUT: true; the input reads as it did. -/
def queryTimeSpec : ChangeSpec := { name := "queryTime", fn := fun _ => fun
  | [d1, d2, d3] => { results := [.lit (.bool true)], args := [d1, d2, d3] }
  | _ => none }
def queryTimeRow : OpenClaim := { program := "ythkdfnbhlinhiaa", sum := "4e71b5ecfa1a27e1ad72a24572668c01c9a0af98ac720280d4a2f1f06e377033", func := "nuncio/nunciolaw08.QueryTime", spec := "queryTime", unfollowed := true, recurses := true, apart := false }
def QueryTimeSaid : Prop := queryTimeRow.holds Try.pinned (OpenSpec.ofChange queryTimeSpec)

/-- ITS FALSE NEIGHBOUR: 'it returns false'. Refute it at one input. -/
def queryTimeWrong : ChangeSpec := { name := "queryTime", fn := fun _ => fun
  | [d1, d2, d3] => { results := [.lit (.bool false)], args := [d1, d2, d3] }
  | _ => none }
def QueryTimeWrongFalsely : Prop := queryTimeRow.holds Try.pinned (OpenSpec.ofChange queryTimeWrong)

/-- 'nunciolaw08.QueryFails': WHATEVER THE INPUT: true; the input reads as it did. -/
def queryFailsSpec : ChangeSpec := { name := "queryFails", fn := fun _ => fun
  | [d1, d2] => { results := [.lit (.bool true)], args := [d1, d2] }
  | _ => none }
def queryFailsRow : OpenClaim := { program := "ythkdfnbhlinhiaa", sum := "4e71b5ecfa1a27e1ad72a24572668c01c9a0af98ac720280d4a2f1f06e377033", func := "nuncio/nunciolaw08.QueryFails", spec := "queryFails", unfollowed := true, recurses := true, apart := false }
def QueryFailsSaid : Prop := queryFailsRow.holds Try.pinned (OpenSpec.ofChange queryFailsSpec)

/-- ITS FALSE NEIGHBOUR: 'it returns false'. Refute it at one input. -/
def queryFailsWrong : ChangeSpec := { name := "queryFails", fn := fun _ => fun
  | [d1, d2] => { results := [.lit (.bool false)], args := [d1, d2] }
  | _ => none }
def QueryFailsWrongFalsely : Prop := queryFailsRow.holds Try.pinned (OpenSpec.ofChange queryFailsWrong)

/- THE SECOND FORM. 'bulk': how many values and letters a reading holds, each counted each time it is reached (what is shared counts as often as it is met; a slice's spare places count too). A statement '..UptoSaid' is the law's where the arguments, and the package variables that the reading takes, are together of bulk at most 1048576: NARROWER than '..Said'. Prove '..Said' where nothing that the law and all that it calls make is longer than what came in: it says more and counts as full. Else prove '..UptoSaid'. A law counts once. -/
mutual
def uptoBulk {H : Type} : DataW H → Nat
  | .lit (.string bytes) => bytes.length + 1
  | .lit _ => 1
  | .nil => 1
  | .ptr d => uptoBulk d + 1
  | .slice elems spare => uptoBulkAll elems + uptoBulkAll spare + 1
  | .agg parts => uptoBulkAll parts + 1
  | .iface _ d => uptoBulk d + 1
  | .map entries => uptoBulkEntries entries + 1
  | .held _ => 1
def uptoBulkAll {H : Type} : List (DataW H) → Nat
  | [] => 0
  | d :: r => uptoBulk d + uptoBulkAll r
def uptoBulkEntries {H : Type} : List (Lit × DataW H) → Nat
  | [] => 0
  | x :: r => uptoBulkEntry x + uptoBulkEntries r
def uptoBulkEntry {H : Type} : Lit × DataW H → Nat
  | (.string bytes, d) => bytes.length + uptoBulk d + 1
  | (_, d) => uptoBulk d + 1
 end
def uptoSmall : (H : Type) → List (DataW H) → Bool := fun _ ds => decide (uptoBulkAll ds ≤ 1048576)
def OpenSpec.upto (s : _root_.Go.ChangeSpec) : _root_.Go.OpenSpec := { _root_.Go.OpenSpec.ofChange s with cond := some uptoSmall }

/-- 'nunciolaw08.QueryAsks', WHERE WHAT IT READS IS OF BULK AT MOST 1048576: true; the input reads as it did. -/
def queryAsksUptoRow : OpenClaim := { program := "ythkdfnbhlinhiaa", sum := "4e71b5ecfa1a27e1ad72a24572668c01c9a0af98ac720280d4a2f1f06e377033", func := "nuncio/nunciolaw08.QueryAsks", spec := "queryAsks", unfollowed := true, recurses := true, apart := false, narrowed := true }
def QueryAsksUptoSaid : Prop := queryAsksUptoRow.holds Try.pinned (OpenSpec.upto queryAsksSpec)

/-- 'nunciolaw08.QueryHolds', WHERE WHAT IT READS IS OF BULK AT MOST 1048576: true; the input reads as it did. -/
def queryHoldsUptoRow : OpenClaim := { program := "ythkdfnbhlinhiaa", sum := "4e71b5ecfa1a27e1ad72a24572668c01c9a0af98ac720280d4a2f1f06e377033", func := "nuncio/nunciolaw08.QueryHolds", spec := "queryHolds", unfollowed := true, recurses := true, apart := false, narrowed := true }
def QueryHoldsUptoSaid : Prop := queryHoldsUptoRow.holds Try.pinned (OpenSpec.upto queryHoldsSpec)

/-- 'nunciolaw08.QueryAges', WHERE WHAT IT READS IS OF BULK AT MOST 1048576: true; the input reads as it did. -/
def queryAgesUptoRow : OpenClaim := { program := "ythkdfnbhlinhiaa", sum := "4e71b5ecfa1a27e1ad72a24572668c01c9a0af98ac720280d4a2f1f06e377033", func := "nuncio/nunciolaw08.QueryAges", spec := "queryAges", unfollowed := true, recurses := true, apart := false, narrowed := true }
def QueryAgesUptoSaid : Prop := queryAgesUptoRow.holds Try.pinned (OpenSpec.upto queryAgesSpec)

/-- 'nunciolaw08.QueryBack', WHERE WHAT IT READS IS OF BULK AT MOST 1048576: true; the input reads as it did. -/
def queryBackUptoRow : OpenClaim := { program := "ythkdfnbhlinhiaa", sum := "4e71b5ecfa1a27e1ad72a24572668c01c9a0af98ac720280d4a2f1f06e377033", func := "nuncio/nunciolaw08.QueryBack", spec := "queryBack", unfollowed := true, recurses := true, apart := false, narrowed := true }
def QueryBackUptoSaid : Prop := queryBackUptoRow.holds Try.pinned (OpenSpec.upto queryBackSpec)

/-- 'nunciolaw08.QueryTime', WHERE WHAT IT READS IS OF BULK AT MOST 1048576: true; the input reads as it did. -/
def queryTimeUptoRow : OpenClaim := { program := "ythkdfnbhlinhiaa", sum := "4e71b5ecfa1a27e1ad72a24572668c01c9a0af98ac720280d4a2f1f06e377033", func := "nuncio/nunciolaw08.QueryTime", spec := "queryTime", unfollowed := true, recurses := true, apart := false, narrowed := true }
def QueryTimeUptoSaid : Prop := queryTimeUptoRow.holds Try.pinned (OpenSpec.upto queryTimeSpec)

/-- 'nunciolaw08.QueryFails', WHERE WHAT IT READS IS OF BULK AT MOST 1048576: true; the input reads as it did. -/
def queryFailsUptoRow : OpenClaim := { program := "ythkdfnbhlinhiaa", sum := "4e71b5ecfa1a27e1ad72a24572668c01c9a0af98ac720280d4a2f1f06e377033", func := "nuncio/nunciolaw08.QueryFails", spec := "queryFails", unfollowed := true, recurses := true, apart := false, narrowed := true }
def QueryFailsUptoSaid : Prop := queryFailsUptoRow.holds Try.pinned (OpenSpec.upto queryFailsSpec)

end Rows
end Go.Proofs.Ythkdfnbhlinhiaa
