-- Written by this repo's own printer (wip/print), which builds on the kit's.
import Derived.Test.YthgminjnednjgaaProg
import Derived.Below
import Derived.Deep.Draws
import Derived.Deep.AppendLies
import Derived.Maps.AppendAt
import Derived.OwnWalk
import Derived.Laws.BytesArg
import Derived.Laws.MakeOwn
import Derived.Laws.OwnMore
import Derived.Deep.OwnRows
import Derived.Tactics
import Derived.Lib.ConvBytes
import Derived.Laws.Slices
import Derived.WalkKit
import Derived.KernelRfl
import Derived.RowKit3
import Derived.Deep.LoopGhost
import Derived.Deep.QuietTactic
import Derived.BigQuiet
import Derived.WideLaws
import Derived.Deep.DeepCutAuto
import Derived.Deep.CutBlock
import Derived.Deep.RegionHeld3
import Derived.Laws.Rows
import Derived.Lib.AppendStr
import Derived.ArgAppend
import Derived.Laws.IdiomCopy
import Derived.OrdersHeld
import Derived.Laws.BitsLemmas
import Derived.RowKit
import Derived.Test.YthgminjnednjgaaWWords
import Derived.Test.YthgminjnednjgaaWLast
import Derived.Test.YthgminjnednjgaaWTab
import Derived.Test.YthgminjnednjgaaWFour
import Derived.Test.YthgminjnednjgaaWQPut
import Derived.Test.YthgminjnednjgaaWApart
import Derived.Test.YthgminjnednjgaaWArr
import Derived.Test.YthgminjnednjgaaWZeros
import Derived.Test.YthgminjnednjgaaWFoot
import Derived.Test.YthgminjnednjgaaWKept
import Derived.Test.YthgminjnednjgaaWShare
import Derived.Test.YthgminjnednjgaaWN
import Derived.Test.YthgminjnednjgaaWFootNe
import Derived.Test.YthgminjnednjgaaWAt
import Derived.Test.YthgminjnednjgaaWEqStruct
import Derived.Test.YthgminjnednjgaaWRepsOne
import Derived.Test.YthgminjnednjgaaWInv
import Derived.Test.YthgminjnednjgaaWInvWords
import Derived.Test.YthgminjnednjgaaWGuard
import Derived.Test.YthgminjnednjgaaWNEv
import Derived.Test.YthgminjnednjgaaWMore
import Derived.Test.YthgminjnednjgaaWMine
import Derived.Test.YthgminjnednjgaaWRow
namespace Go.Proofs.Ythgminjnednjgaa.Mine
open Go.RowKit Go.Proofs.YthgminjnednjgaaW.PrintWords Go.Proofs.YthgminjnednjgaaW.PrintLast Go.Proofs.YthgminjnednjgaaW.PrintMore
attribute [local go_sem] max2_int min2_int max_two min_two max_three min_three max_four min_four   -- for this text's walks alone
set_option linter.unusedVariables false
set_option linter.unusedSimpArgs false



def errW : Option Int → Value
  | none => .nilIface
  | some c => .iface 0 (.int .i64 c)
theorem errW_none : errW none = .nilIface := rfl
theorem errW_some (c : Int) : errW (some c) = .iface 0 (.int .i64 c) := rfl

theorem info5 : (Try.prog.info? 5).map (fun i => (i.zero, i.size, i.bytes)) = some (some (.int .u8 0), 1, 1) := by kernel_rfl
-- the values' own types

end Go.Proofs.Ythgminjnednjgaa.Mine
