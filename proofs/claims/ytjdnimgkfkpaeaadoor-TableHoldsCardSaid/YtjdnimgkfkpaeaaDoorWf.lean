-- Written by this repo's own printer (wip/print), which builds on the kit's.
import Derived.Test.YtjdnimgkfkpaeaaDoorMinex0
namespace Go.Proofs.YtjdnimgkfkpaeaaDoor.Mine
open Go.RowKit Go.Proofs.YtjdnimgkfkpaeaaDoorW.PrintWords Go.Proofs.YtjdnimgkfkpaeaaDoorW.PrintLast Go.Proofs.YtjdnimgkfkpaeaaDoorW.PrintMore
def k34_wf (x : S34) : Prop := (x.f0.size ≤ 140737488351232) ∧ (x.f1.size ≤ 140737488351232) ∧ ((Lit.int .i64 x.f2).wf = true)
theorem k34_opens : Opens Tryd.prog 34 k34 k34_wf := by
 refine Opens.struct (P := Tryd.prog) (d := (Kd.pair Kd.string (Kd.pair Kd.string (Kd.int .i64)))) (wf := (fun x => (x.1.size ≤ 140737488351232) ∧ (fun x => (x.1.size ≤ 140737488351232) ∧ (fun x => (Lit.int .i64 x).wf = true) x.2) x.2)) (f := fun x : S34 => (x.f0, x.f1, x.f2)) (g := fun y => (⟨y.1, y.2.1, y.2.2⟩ : S34)) ?_ Tryd.underlying34 (by kernel_rfl) (fun _ => rfl)
 exact (OpensCells.cons (Opens.string Tryd.underlying9) (by kernel_rfl) (OpensCells.cons (Opens.string Tryd.underlying9) (by kernel_rfl) (OpensCells.one (Opens.int Tryd.underlying3) (by kernel_rfl)) rfl) rfl)
end Go.Proofs.YtjdnimgkfkpaeaaDoor.Mine
