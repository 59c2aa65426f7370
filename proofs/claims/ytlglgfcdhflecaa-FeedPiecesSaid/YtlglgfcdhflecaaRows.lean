/-
  No cell of these rows narrows 'for every input' (looked for: loops, veiled, ifaces, maps, wideKeys, modest, calm, conditions, laid).
  DERIVED. THE GIVEN ROWS OF THIS SEAT. 3 by the template 'for every input the law returns true; each argument reads behind the call as it read before'; 0 by the template 'total and deterministic' (their statements: YtlglgfcdhflecaaTotals.lean).
  GIVEN WITH THE SEED: the statements are not yours to turn. If you find one false, say at which input.
  Laid BY PROGRAM, IN A SANDBOX (cutbox-rows.mjs): the forced cells as the released guide's own fill.sh prints them over the translation 971e52ea7eb0578c… (all of the seat's roots in one cut). By AI agents, Wed Nov 11 2026. No macro, syntax, notation, axiom, sorry.
-/
import Derived.Test.YtlglgfcdhflecaaChecked
import GoSem.Claim
import GoSem.ClaimJoined
import GoSem.ClaimMapViews
import Derived.JoinedTies
import Derived.KernelRfl
namespace Go.Proofs.Ytlglgfcdhflecaa
/- THE CELL 'sum', in the pinned program and in every row, IS THE sha256 OF THE DUMP (.gsa) THAT YtlglgfcdhflecaaProg.lean LOADS. Nothing in Lean hashes anything: it is a label: what it is worth is what the hold of that sum in a sandbox is worth. -/
noncomputable def Try.pinned : Pinned := { name := "ytlglgfcdhflecaa", sum := "971e52ea7eb0578c742cf79625fb34419d64285636e093cfa9a7c825230e33b1", checked := Try.checked }
namespace Rows
def none {H : Type} : Left H := { results := [], args := [] }

/-- 'nunciolaw15.FeedTakes': WHATEVER THE INPUT: true; the input reads as it did. -/
def feedTakesSpec : ChangeSpec := { name := "feedTakes", fn := fun _ => fun
  | [d1, d2] => { results := [.lit (.bool true)], args := [d1, d2] }
  | _ => none }
def feedTakesRow : OpenClaim := { program := "ytlglgfcdhflecaa", sum := "971e52ea7eb0578c742cf79625fb34419d64285636e093cfa9a7c825230e33b1", func := "nuncio/nunciolaw15.FeedTakes", spec := "feedTakes", apart := false }
def FeedTakesSaid : Prop := feedTakesRow.holds Try.pinned (OpenSpec.ofChange feedTakesSpec)

/-- ITS FALSE NEIGHBOUR: 'it returns false'. Refute it at one input. -/
def feedTakesWrong : ChangeSpec := { name := "feedTakes", fn := fun _ => fun
  | [d1, d2] => { results := [.lit (.bool false)], args := [d1, d2] }
  | _ => none }
def FeedTakesWrongFalsely : Prop := feedTakesRow.holds Try.pinned (OpenSpec.ofChange feedTakesWrong)

/-- 'nunciolaw15.FeedPieces': WHATEVER THE INPUT: true; the input reads as it did. -/
def feedPiecesSpec : ChangeSpec := { name := "feedPieces", fn := fun _ => fun
  | [d1, d2, d3] => { results := [.lit (.bool true)], args := [d1, d2, d3] }
  | _ => none }
def feedPiecesRow : OpenClaim := { program := "ytlglgfcdhflecaa", sum := "971e52ea7eb0578c742cf79625fb34419d64285636e093cfa9a7c825230e33b1", func := "nuncio/nunciolaw15.FeedPieces", spec := "feedPieces", apart := false }
def FeedPiecesSaid : Prop := feedPiecesRow.holds Try.pinned (OpenSpec.ofChange feedPiecesSpec)

/-- ITS FALSE NEIGHBOUR: 'it returns false'. Refute it at one input. -/
def feedPiecesWrong : ChangeSpec := { name := "feedPieces", fn := fun _ => fun
  | [d1, d2, d3] => { results := [.lit (.bool false)], args := [d1, d2, d3] }
  | _ => none }
def FeedPiecesWrongFalsely : Prop := feedPiecesRow.holds Try.pinned (OpenSpec.ofChange feedPiecesWrong)

/-- 'nunciolaw15.FeedBack': WHATEVER THE INPUT: true; the input reads as it did. -/
def feedBackSpec : ChangeSpec := { name := "feedBack", fn := fun _ => fun
  | [d1, d2, d3] => { results := [.lit (.bool true)], args := [d1, d2, d3] }
  | _ => none }
def feedBackRow : OpenClaim := { program := "ytlglgfcdhflecaa", sum := "971e52ea7eb0578c742cf79625fb34419d64285636e093cfa9a7c825230e33b1", func := "nuncio/nunciolaw15.FeedBack", spec := "feedBack", apart := false }
def FeedBackSaid : Prop := feedBackRow.holds Try.pinned (OpenSpec.ofChange feedBackSpec)

/-- ITS FALSE NEIGHBOUR: 'it returns false'. Refute it at one input. -/
def feedBackWrong : ChangeSpec := { name := "feedBack", fn := fun _ => fun
  | [d1, d2, d3] => { results := [.lit (.bool false)], args := [d1, d2, d3] }
  | _ => none }
def FeedBackWrongFalsely : Prop := feedBackRow.holds Try.pinned (OpenSpec.ofChange feedBackWrong)

/- THE SECOND FORM. 'bulk': how many values and letters a reading holds, each counted each time it is reached (what is shared counts as often as it is met; a slice's spare places count too). A statement '..UptoSaid' is the law's where the arguments, and the package variables that the reading takes, are together of bulk at most 1048576: NARROWER than '..Said'. Prove '..Said' where nothing that the law and all that it calls make is longer than what came in: it says more and counts as full. Else prove '..UptoSaid'. A law counts once. -/
mutual
def uptoBulk {H : Type} : DataW H → Nat
  | .lit (.string bytes) => bytes.length + 1
  | .lit _ => 1
  | .nil => 1
  | .ptr d => uptoBulk d + 1
  | .slice elems spare => uptoBulkAll elems + uptoBulkAll spare + 1
  | .agg parts => uptoBulkAll parts + 1
  | .iface _ d => uptoBulk d + 1
  | .map entries => uptoBulkEntries entries + 1
  | .held _ => 1
def uptoBulkAll {H : Type} : List (DataW H) → Nat
  | [] => 0
  | d :: r => uptoBulk d + uptoBulkAll r
def uptoBulkEntries {H : Type} : List (Lit × DataW H) → Nat
  | [] => 0
  | x :: r => uptoBulkEntry x + uptoBulkEntries r
def uptoBulkEntry {H : Type} : Lit × DataW H → Nat
  | (.string bytes, d) => bytes.length + uptoBulk d + 1
  | (_, d) => uptoBulk d + 1
 end
def uptoSmall : (H : Type) → List (DataW H) → Bool := fun _ ds => decide (uptoBulkAll ds ≤ 1048576)
def OpenSpec.upto (s : _root_.Go.ChangeSpec) : _root_.Go.OpenSpec := { _root_.Go.OpenSpec.ofChange s with cond := some uptoSmall }

/-- 'nunciolaw15.FeedTakes', WHERE WHAT IT READS IS OF BULK AT MOST 1048576: true; the input reads as it did. -/
def feedTakesUptoRow : OpenClaim := { program := "ytlglgfcdhflecaa", sum := "971e52ea7eb0578c742cf79625fb34419d64285636e093cfa9a7c825230e33b1", func := "nuncio/nunciolaw15.FeedTakes", spec := "feedTakes", apart := false, narrowed := true }
def FeedTakesUptoSaid : Prop := feedTakesUptoRow.holds Try.pinned (OpenSpec.upto feedTakesSpec)

/-- 'nunciolaw15.FeedPieces', WHERE WHAT IT READS IS OF BULK AT MOST 1048576: true; the input reads as it did. -/
def feedPiecesUptoRow : OpenClaim := { program := "ytlglgfcdhflecaa", sum := "971e52ea7eb0578c742cf79625fb34419d64285636e093cfa9a7c825230e33b1", func := "nuncio/nunciolaw15.FeedPieces", spec := "feedPieces", apart := false, narrowed := true }
def FeedPiecesUptoSaid : Prop := feedPiecesUptoRow.holds Try.pinned (OpenSpec.upto feedPiecesSpec)

/-- 'nunciolaw15.FeedBack', WHERE WHAT IT READS IS OF BULK AT MOST 1048576: true; the input reads as it did. -/
def feedBackUptoRow : OpenClaim := { program := "ytlglgfcdhflecaa", sum := "971e52ea7eb0578c742cf79625fb34419d64285636e093cfa9a7c825230e33b1", func := "nuncio/nunciolaw15.FeedBack", spec := "feedBack", apart := false, narrowed := true }
def FeedBackUptoSaid : Prop := feedBackUptoRow.holds Try.pinned (OpenSpec.upto feedBackSpec)

end Rows
end Go.Proofs.Ytlglgfcdhflecaa
