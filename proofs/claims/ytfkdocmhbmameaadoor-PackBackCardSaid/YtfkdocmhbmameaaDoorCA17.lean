/- The walks and the plain laws that the rows come to: merged out of this repo's texts. -/
import Derived.Test.YtfkdocmhbmameaaDoorProg
import Derived.Below
import Derived.Deep.Draws
import Derived.Deep.AppendLies
import Derived.Maps.AppendAt
import Derived.OwnWalk
import Derived.Laws.BytesArg
import Derived.Laws.MakeOwn
import Derived.Laws.OwnMore
import Derived.Deep.OwnRows
import Derived.Tactics
import Derived.Lib.ConvBytes
import Derived.Laws.Slices
import Derived.WalkKit
import Derived.KernelRfl
import Derived.RowKit3
import Derived.Deep.LoopGhost
import Derived.Deep.QuietTactic
import Derived.BigQuiet
import Derived.WideLaws
import Derived.Deep.DeepCutAuto
import Derived.Deep.CutBlock
import Derived.Deep.RegionHeld3
import Derived.Laws.Rows
import Derived.Lib.AppendStr
import Derived.ArgAppend
import Derived.Laws.IdiomCopy
import Derived.RowKit
import Derived.OrdersHeld
import Derived.Laws.BitsLemmas
import Derived.Laws.StructEq
import Derived.Laws.CopyOwn
import Derived.SizedLaws
import Derived.ChangeSlices
import Derived.Deep.Slices
import Derived.Lib.SmallJoins
import Derived.Lib.OthersKept
import Derived.Lib.AppendZerosOnto
import Derived.WalkSpells
import Derived.Shelf.Utf8.RuneCount
import Derived.Shelf.Strings.Search1
import Derived.Shelf.Strings.Search2
import Derived.Shelf.Strings.Search3
import Derived.Shelf.Strings.Cut
import Derived.Shelf.Strings.Count
import Derived.Shelf.LaysM
import Derived.Shelf.Strings.Shaped
import Derived.Shelf.Strings.Split
import Derived.Shelf.Strings.SplitShaped
import Derived.Shelf.Unicode.Decode
import Derived.Shelf.Strings.RuneCount
import Derived.Shelf.Strings.Explode
import Derived.Shelf.Unicode.DecodeSlow
import Derived.Shelf.Unicode.DecodeAny
import Derived.Test.YtfkdocmhbmameaaDoorCA1
import Derived.Test.YtfkdocmhbmameaaDoorCA2
import Derived.Test.YtfkdocmhbmameaaDoorCA3
import Derived.Test.YtfkdocmhbmameaaDoorCA7
import Derived.Test.YtfkdocmhbmameaaDoorCA8
import Derived.Test.YtfkdocmhbmameaaDoorCA9
import Derived.Test.YtfkdocmhbmameaaDoorCA10
import Derived.Test.YtfkdocmhbmameaaDoorCA11
import Derived.Test.YtfkdocmhbmameaaDoorCA12
import Derived.Test.YtfkdocmhbmameaaDoorCA13
import Derived.Test.YtfkdocmhbmameaaDoorCA15
import Derived.Test.YtfkdocmhbmameaaDoorCA16
namespace Go.Proofs.YtfkdocmhbmameaaDoor.Mine
open Go.RowKit Go.Proofs Go.Proofs.YtfkdocmhbmameaaDoorW.PrintWords Go.Proofs.YtfkdocmhbmameaaDoorW.PrintLast Go.Proofs.YtfkdocmhbmameaaDoorW.PrintMore
attribute [local go_sem] max2_int min2_int max_two min_two max_three min_three max_four min_four
set_option linter.unusedVariables false
set_option linter.unusedSimpArgs false
def rfRound (k : Nat) (m : Int) (l : List S88) (s : ByteArray) (a : Int) (out : List S26) : Option (Int × List S88 × Int × Int × List S26) :=
  if 0 ≤ a then
    (if 32 ≤ bt s a ∧ bt s a ≤ 63 then ((rfNum k s a 0 5).bind fun p => if p.2.2 = 0 then (if 0 < out.length ∨ p.1 > 4096 then some (m, l, p.2.1, 93, out) else ((nuncioref11_Resize.f k m l p.1).bind fun q => some (q.1, q.2, p.2.1, 0, out))) else some (m, l, p.2.1, p.2.2, out))
    else if out.length = 64 then some (m, l, a, 94, out)
    else if bt s a ≥ 128 then ((rfNum k s a 0 7).bind fun p => (rfEnt k m l p.2.2 p.1).bind fun q => some (m, l, p.2.1, q.2.2, out ++ [⟨q.1, q.2.1, false⟩]))
    else if bt s a ≥ 64 then ((rfLit k m l s a 0 6).bind fun p => if p.2.2.2 = 0 then ((nuncioref11_Add.f k m l p.1 p.2.1).bind fun q => some (q.1, q.2, p.2.2.1, 0, out ++ [⟨p.1, p.2.1, false⟩])) else some (m, l, p.2.2.1, p.2.2.2, out ++ [⟨p.1, p.2.1, false⟩]))
    else ((rfLit k m l s a 0 4).bind fun p => some (m, l, p.2.2.1, p.2.2.2, out ++ [⟨p.1, p.2.1, decide (bt s a ≥ 16)⟩]))) else none
def rfLoop (k : Nat) : Nat → Int → List S88 → ByteArray → Int → Int → List S26 → Option (Int × List S88 × Int × List S26)
  | 0, _, _, _, _, _, _ => none
  | r + 1, m, l, s, a, e, out => if e = 0 ∧ a < (s.size : Int) then ((rfRound k m l s a out).bind fun q => rfLoop k r q.1 q.2.1 s q.2.2.1 q.2.2.2.1 q.2.2.2.2) else some (m, l, e, out)
def nuncioref12_Read.f (k : Nat) (m : Int) (l : List S88) (down : Bool) (s : ByteArray) : Option (Int × List S88 × Bool × List S26 × Int) :=
  if down = true then some (m, l, true, [], 8) else (rfLoop k k m l s 0 0 []).bind fun q => if q.2.2.1 = 0 then some (q.1, q.2.1, false, q.2.2.2, 0) else some (q.1, q.2.1, true, [], q.2.2.1)
end Go.Proofs.YtfkdocmhbmameaaDoor.Mine
