-- Written by this repo's own printer (wip/print), which builds on the kit's.
import Derived.Test.YtpnflloamidecaaWK
namespace Go.Proofs.Ytpnflloamidecaa.Mine
open Go.RowKit Go.Proofs.YtpnflloamidecaaW.PrintWords Go.Proofs.YtpnflloamidecaaW.PrintLast Go.Proofs.YtpnflloamidecaaW.PrintMore
attribute [local go_sem] max2_int min2_int max_two min_two max_three min_three max_four min_four   -- for this text's walks alone
set_option linter.unusedVariables false
set_option linter.unusedSimpArgs false



def errW : Option Int → Value
  | none => .nilIface
  | some c => .iface 0 (.int .i64 c)
theorem errW_none : errW none = .nilIface := rfl
theorem errW_some (c : Int) : errW (some c) = .iface 0 (.int .i64 c) := rfl

theorem info5 : (Try.prog.info? 5).map (fun i => (i.zero, i.size, i.bytes)) = some (some (.int .u8 0), 1, 1) := by kernel_rfl
theorem info9 : (Try.prog.info? 9).map (fun i => (i.zero, i.size, i.bytes)) = some (some (.string ⟨#[]⟩), 1, 16) := by kernel_rfl
-- the values' own types

end Go.Proofs.Ytpnflloamidecaa.Mine
