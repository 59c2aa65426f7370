/- The walks and the plain laws that the rows come to: merged out of this repo's texts. -/
import Derived.Test.YtfkdocmhbmameaaDoorProg
import Derived.Below
import Derived.Deep.Draws
import Derived.Deep.AppendLies
import Derived.Maps.AppendAt
import Derived.OwnWalk
import Derived.Laws.BytesArg
import Derived.Laws.MakeOwn
import Derived.Laws.OwnMore
import Derived.Deep.OwnRows
import Derived.Tactics
import Derived.Lib.ConvBytes
import Derived.Laws.Slices
import Derived.WalkKit
import Derived.KernelRfl
import Derived.RowKit3
import Derived.Deep.LoopGhost
import Derived.Deep.QuietTactic
import Derived.BigQuiet
import Derived.WideLaws
import Derived.Deep.DeepCutAuto
import Derived.Deep.CutBlock
import Derived.Deep.RegionHeld3
import Derived.Laws.Rows
import Derived.Lib.AppendStr
import Derived.ArgAppend
import Derived.Laws.IdiomCopy
import Derived.RowKit
import Derived.OrdersHeld
import Derived.Laws.BitsLemmas
import Derived.Laws.StructEq
import Derived.Laws.CopyOwn
import Derived.SizedLaws
import Derived.ChangeSlices
import Derived.Deep.Slices
import Derived.Lib.SmallJoins
import Derived.Lib.OthersKept
import Derived.Lib.AppendZerosOnto
import Derived.WalkSpells
import Derived.Test.YtfkdocmhbmameaaDoorCA1
import Derived.Test.YtfkdocmhbmameaaDoorCA2
import Derived.Test.YtfkdocmhbmameaaDoorCA25
namespace Go.Proofs.YtfkdocmhbmameaaDoor.Mine
open Go.RowKit Go.Proofs.YtfkdocmhbmameaaDoorW.PrintWords Go.Proofs.YtfkdocmhbmameaaDoorW.PrintLast Go.Proofs.YtfkdocmhbmameaaDoorW.PrintMore
set_option maxRecDepth 100000 in
theorem k44_opens : Opens Tryd.prog 44 k44 k44_wf := by
 refine Opens.struct (P := Tryd.prog) (d := (Kd.pair Kd.bool (Kd.pair (Kd.int .u32) (Kd.slice 26 k26)))) (wf := (fun x => (True) ∧ (fun x => ((Lit.int .u32 x.1).wf = true) ∧ (fun x => x.length ≤ 9223372036854775807 ∧ x.length * 40 ≤ 140737488351232 ∧ ∀ x_ ∈ x, k26_wf x_) x.2) x.2)) (f := fun x : S44 => (x.f0, x.f1, x.f2)) (g := fun y => (⟨y.1, y.2.1, y.2.2⟩ : S44)) ?_ Tryd.underlying44 (by kernel_rfl) (fun _ => rfl)
 exact (OpensCells.cons (Opens.bool Tryd.underlying4) (by kernel_rfl) (OpensCells.cons (Opens.int Tryd.underlying42) (by kernel_rfl) (OpensCells.one (Opens.slice (d := k26) k26_opens Tryd.underlying22 (by kernel_rfl) (B := 40) (by kernel_rfl)) (by kernel_rfl)) rfl) rfl)
end Go.Proofs.YtfkdocmhbmameaaDoor.Mine
