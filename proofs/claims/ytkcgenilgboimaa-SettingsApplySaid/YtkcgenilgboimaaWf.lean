-- Written by this repo's own printer (wip/print), which builds on the kit's.
import Derived.Test.YtkcgenilgboimaaMinex0
namespace Go.Proofs.Ytkcgenilgboimaa.Mine
open Go.RowKit Go.Proofs.YtkcgenilgboimaaW.PrintWords Go.Proofs.YtkcgenilgboimaaW.PrintLast Go.Proofs.YtkcgenilgboimaaW.PrintMore
def k42_wf (x : S42) : Prop := ((Lit.int .u16 x.f0).wf = true) ∧ ((Lit.int .u32 x.f1).wf = true)
theorem k42_opens : Opens Try.prog 42 k42 k42_wf := by
 refine Opens.struct (P := Try.prog) (d := (Kd.pair (Kd.int .u16) (Kd.int .u32))) (wf := (fun x => ((Lit.int .u16 x.1).wf = true) ∧ (fun x => (Lit.int .u32 x).wf = true) x.2)) (f := fun x : S42 => (x.f0, x.f1)) (g := fun y => (⟨y.1, y.2⟩ : S42)) ?_ Try.underlying42 (by kernel_rfl) (fun _ => rfl)
 exact (OpensCells.cons (Opens.int Try.underlying40) (by kernel_rfl) (OpensCells.one (Opens.int Try.underlying24) (by kernel_rfl)) rfl)
end Go.Proofs.Ytkcgenilgboimaa.Mine
