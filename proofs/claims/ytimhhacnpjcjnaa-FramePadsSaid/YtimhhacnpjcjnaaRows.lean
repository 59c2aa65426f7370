/-
  No cell of these rows narrows 'for every input' (looked for: loops, veiled, ifaces, maps, wideKeys, modest, calm, conditions, laid).
  DERIVED. THE GIVEN ROWS OF THIS SEAT. 5 by the template 'for every input the law returns true; each argument reads behind the call as it read before'; 0 by the template 'total and deterministic' (their statements: YtimhhacnpjcjnaaTotals.lean).
  GIVEN WITH THE SEED: the statements are not yours to turn. If you find one false, say at which input.
  Laid BY PROGRAM, IN A SANDBOX (cutbox-rows.mjs): the forced cells as the released guide's own fill.sh prints them over the translation 7bf09f0b699b583c… (all of the seat's roots in one cut). By AI agents, Wed Nov 11 2026. No macro, syntax, notation, axiom, sorry.
-/
import Derived.Test.YtimhhacnpjcjnaaChecked
import GoSem.Claim
import GoSem.ClaimJoined
import GoSem.ClaimMapViews
import Derived.JoinedTies
import Derived.KernelRfl
namespace Go.Proofs.Ytimhhacnpjcjnaa
/- THE CELL 'sum', in the pinned program and in every row, IS THE sha256 OF THE DUMP (.gsa) THAT YtimhhacnpjcjnaaProg.lean LOADS. Nothing in Lean hashes anything: it is a label: what it is worth is what the hold of that sum in a sandbox is worth. -/
noncomputable def Try.pinned : Pinned := { name := "ytimhhacnpjcjnaa", sum := "7bf09f0b699b583c52bf511b10e1ab1b549284d7fdac9bf98079e112bf40b2e5", checked := Try.checked }
namespace Rows
def none {H : Type} : Left H := { results := [], args := [] }

/-- 'nunciolaw14.FrameParses': WHATEVER THE INPUT: true; the input reads as it did. -/
def frameParsesSpec : ChangeSpec := { name := "frameParses", fn := fun _ => fun
  | [d1, d2] => { results := [.lit (.bool true)], args := [d1, d2] }
  | _ => none }
def frameParsesRow : OpenClaim := { program := "ytimhhacnpjcjnaa", sum := "7bf09f0b699b583c52bf511b10e1ab1b549284d7fdac9bf98079e112bf40b2e5", func := "nuncio/nunciolaw14.FrameParses", spec := "frameParses", apart := false }
def FrameParsesSaid : Prop := frameParsesRow.holds Try.pinned (OpenSpec.ofChange frameParsesSpec)

/-- ITS FALSE NEIGHBOUR: 'it returns false'. Refute it at one input. -/
def frameParsesWrong : ChangeSpec := { name := "frameParses", fn := fun _ => fun
  | [d1, d2] => { results := [.lit (.bool false)], args := [d1, d2] }
  | _ => none }
def FrameParsesWrongFalsely : Prop := frameParsesRow.holds Try.pinned (OpenSpec.ofChange frameParsesWrong)

/-- 'nunciolaw14.FrameWrong': WHATEVER THE INPUT: true; the input reads as it did. -/
def frameWrongSpec : ChangeSpec := { name := "frameWrong", fn := fun _ => fun
  | [d] => { results := [.lit (.bool true)], args := [d] }
  | _ => none }
def frameWrongRow : OpenClaim := { program := "ytimhhacnpjcjnaa", sum := "7bf09f0b699b583c52bf511b10e1ab1b549284d7fdac9bf98079e112bf40b2e5", func := "nuncio/nunciolaw14.FrameWrong", spec := "frameWrong", apart := false }
def FrameWrongSaid : Prop := frameWrongRow.holds Try.pinned (OpenSpec.ofChange frameWrongSpec)

/-- ITS FALSE NEIGHBOUR: 'it returns false'. Refute it at one input. -/
def frameWrongWrong : ChangeSpec := { name := "frameWrong", fn := fun _ => fun
  | [d] => { results := [.lit (.bool false)], args := [d] }
  | _ => none }
def FrameWrongWrongFalsely : Prop := frameWrongRow.holds Try.pinned (OpenSpec.ofChange frameWrongWrong)

/-- 'nunciolaw14.FrameBack': WHATEVER THE INPUT: true; the input reads as it did. -/
def frameBackSpec : ChangeSpec := { name := "frameBack", fn := fun _ => fun
  | [d1, d2, d3] => { results := [.lit (.bool true)], args := [d1, d2, d3] }
  | _ => none }
def frameBackRow : OpenClaim := { program := "ytimhhacnpjcjnaa", sum := "7bf09f0b699b583c52bf511b10e1ab1b549284d7fdac9bf98079e112bf40b2e5", func := "nuncio/nunciolaw14.FrameBack", spec := "frameBack", apart := false }
def FrameBackSaid : Prop := frameBackRow.holds Try.pinned (OpenSpec.ofChange frameBackSpec)

/-- ITS FALSE NEIGHBOUR: 'it returns false'. Refute it at one input. -/
def frameBackWrong : ChangeSpec := { name := "frameBack", fn := fun _ => fun
  | [d1, d2, d3] => { results := [.lit (.bool false)], args := [d1, d2, d3] }
  | _ => none }
def FrameBackWrongFalsely : Prop := frameBackRow.holds Try.pinned (OpenSpec.ofChange frameBackWrong)

/-- 'nunciolaw14.FramePads': WHATEVER THE INPUT: true; the input reads as it did. -/
def framePadsSpec : ChangeSpec := { name := "framePads", fn := fun _ => fun
  | [d1, d2, d3, d4, d5] => { results := [.lit (.bool true)], args := [d1, d2, d3, d4, d5] }
  | _ => none }
def framePadsRow : OpenClaim := { program := "ytimhhacnpjcjnaa", sum := "7bf09f0b699b583c52bf511b10e1ab1b549284d7fdac9bf98079e112bf40b2e5", func := "nuncio/nunciolaw14.FramePads", spec := "framePads", apart := false }
def FramePadsSaid : Prop := framePadsRow.holds Try.pinned (OpenSpec.ofChange framePadsSpec)

/-- ITS FALSE NEIGHBOUR: 'it returns false'. Refute it at one input. -/
def framePadsWrong : ChangeSpec := { name := "framePads", fn := fun _ => fun
  | [d1, d2, d3, d4, d5] => { results := [.lit (.bool false)], args := [d1, d2, d3, d4, d5] }
  | _ => none }
def FramePadsWrongFalsely : Prop := framePadsRow.holds Try.pinned (OpenSpec.ofChange framePadsWrong)

/-- 'nunciolaw14.FrameMakes': WHATEVER THE INPUT: true; the input reads as it did. -/
def frameMakesSpec : ChangeSpec := { name := "frameMakes", fn := fun _ => fun
  | [d1, d2, d3] => { results := [.lit (.bool true)], args := [d1, d2, d3] }
  | _ => none }
def frameMakesRow : OpenClaim := { program := "ytimhhacnpjcjnaa", sum := "7bf09f0b699b583c52bf511b10e1ab1b549284d7fdac9bf98079e112bf40b2e5", func := "nuncio/nunciolaw14.FrameMakes", spec := "frameMakes", apart := false }
def FrameMakesSaid : Prop := frameMakesRow.holds Try.pinned (OpenSpec.ofChange frameMakesSpec)

/-- ITS FALSE NEIGHBOUR: 'it returns false'. Refute it at one input. -/
def frameMakesWrong : ChangeSpec := { name := "frameMakes", fn := fun _ => fun
  | [d1, d2, d3] => { results := [.lit (.bool false)], args := [d1, d2, d3] }
  | _ => none }
def FrameMakesWrongFalsely : Prop := frameMakesRow.holds Try.pinned (OpenSpec.ofChange frameMakesWrong)

/- THE SECOND FORM. 'bulk': how many values and letters a reading holds, each counted each time it is reached (what is shared counts as often as it is met; a slice's spare places count too). A statement '..UptoSaid' is the law's where the arguments, and the package variables that the reading takes, are together of bulk at most 1048576: NARROWER than '..Said'. Prove '..Said' where nothing that the law and all that it calls make is longer than what came in: it says more and counts as full. Else prove '..UptoSaid'. A law counts once. -/
mutual
def uptoBulk {H : Type} : DataW H → Nat
  | .lit (.string bytes) => bytes.length + 1
  | .lit _ => 1
  | .nil => 1
  | .ptr d => uptoBulk d + 1
  | .slice elems spare => uptoBulkAll elems + uptoBulkAll spare + 1
  | .agg parts => uptoBulkAll parts + 1
  | .iface _ d => uptoBulk d + 1
  | .map entries => uptoBulkEntries entries + 1
  | .held _ => 1
def uptoBulkAll {H : Type} : List (DataW H) → Nat
  | [] => 0
  | d :: r => uptoBulk d + uptoBulkAll r
def uptoBulkEntries {H : Type} : List (Lit × DataW H) → Nat
  | [] => 0
  | x :: r => uptoBulkEntry x + uptoBulkEntries r
def uptoBulkEntry {H : Type} : Lit × DataW H → Nat
  | (.string bytes, d) => bytes.length + uptoBulk d + 1
  | (_, d) => uptoBulk d + 1
 end
def uptoSmall : (H : Type) → List (DataW H) → Bool := fun _ ds => decide (uptoBulkAll ds ≤ 1048576)
def OpenSpec.upto (s : _root_.Go.ChangeSpec) : _root_.Go.OpenSpec := { _root_.Go.OpenSpec.ofChange s with cond := some uptoSmall }

/-- 'nunciolaw14.FrameParses', WHERE WHAT IT READS IS OF BULK AT MOST 1048576: true; the input reads as it did. -/
def frameParsesUptoRow : OpenClaim := { program := "ytimhhacnpjcjnaa", sum := "7bf09f0b699b583c52bf511b10e1ab1b549284d7fdac9bf98079e112bf40b2e5", func := "nuncio/nunciolaw14.FrameParses", spec := "frameParses", apart := false, narrowed := true }
def FrameParsesUptoSaid : Prop := frameParsesUptoRow.holds Try.pinned (OpenSpec.upto frameParsesSpec)

/-- 'nunciolaw14.FrameWrong', WHERE WHAT IT READS IS OF BULK AT MOST 1048576: true; the input reads as it did. -/
def frameWrongUptoRow : OpenClaim := { program := "ytimhhacnpjcjnaa", sum := "7bf09f0b699b583c52bf511b10e1ab1b549284d7fdac9bf98079e112bf40b2e5", func := "nuncio/nunciolaw14.FrameWrong", spec := "frameWrong", apart := false, narrowed := true }
def FrameWrongUptoSaid : Prop := frameWrongUptoRow.holds Try.pinned (OpenSpec.upto frameWrongSpec)

/-- 'nunciolaw14.FrameBack', WHERE WHAT IT READS IS OF BULK AT MOST 1048576: true; the input reads as it did. -/
def frameBackUptoRow : OpenClaim := { program := "ytimhhacnpjcjnaa", sum := "7bf09f0b699b583c52bf511b10e1ab1b549284d7fdac9bf98079e112bf40b2e5", func := "nuncio/nunciolaw14.FrameBack", spec := "frameBack", apart := false, narrowed := true }
def FrameBackUptoSaid : Prop := frameBackUptoRow.holds Try.pinned (OpenSpec.upto frameBackSpec)

/-- 'nunciolaw14.FramePads', WHERE WHAT IT READS IS OF BULK AT MOST 1048576: true; the input reads as it did. -/
def framePadsUptoRow : OpenClaim := { program := "ytimhhacnpjcjnaa", sum := "7bf09f0b699b583c52bf511b10e1ab1b549284d7fdac9bf98079e112bf40b2e5", func := "nuncio/nunciolaw14.FramePads", spec := "framePads", apart := false, narrowed := true }
def FramePadsUptoSaid : Prop := framePadsUptoRow.holds Try.pinned (OpenSpec.upto framePadsSpec)

/-- 'nunciolaw14.FrameMakes', WHERE WHAT IT READS IS OF BULK AT MOST 1048576: true; the input reads as it did. -/
def frameMakesUptoRow : OpenClaim := { program := "ytimhhacnpjcjnaa", sum := "7bf09f0b699b583c52bf511b10e1ab1b549284d7fdac9bf98079e112bf40b2e5", func := "nuncio/nunciolaw14.FrameMakes", spec := "frameMakes", apart := false, narrowed := true }
def FrameMakesUptoSaid : Prop := frameMakesUptoRow.holds Try.pinned (OpenSpec.upto frameMakesSpec)

end Rows
end Go.Proofs.Ytimhhacnpjcjnaa
