-- Written by this repo's own printer (wip/print), which builds on the kit's.
import Derived.Test.YtihjecnkecgckaaMinex0
namespace Go.Proofs.Ytihjecnkecgckaa.Mine
open Go.RowKit Go.Proofs.YtihjecnkecgckaaW.PrintWords Go.Proofs.YtihjecnkecgckaaW.PrintLast Go.Proofs.YtihjecnkecgckaaW.PrintMore
def k44_wf (x : S44) : Prop := (True) ∧ ((Lit.int .i64 x.f1).wf = true)
theorem k44_opens : Opens Try.prog 44 k44 k44_wf := by
 refine Opens.struct (P := Try.prog) (d := (Kd.pair Kd.bool (Kd.int .i64))) (wf := (fun x => (True) ∧ (fun x => (Lit.int .i64 x).wf = true) x.2)) (f := fun x : S44 => (x.f0, x.f1)) (g := fun y => (⟨y.1, y.2⟩ : S44)) ?_ Try.underlying44 (by kernel_rfl) (fun _ => rfl)
 exact (OpensCells.cons (Opens.bool Try.underlying4) (by kernel_rfl) (OpensCells.one (Opens.int Try.underlying3) (by kernel_rfl)) rfl)
end Go.Proofs.Ytihjecnkecgckaa.Mine
