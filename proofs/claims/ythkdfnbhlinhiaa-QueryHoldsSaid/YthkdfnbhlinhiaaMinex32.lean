-- Written by this repo's own printer (wip/print), which builds on the kit's.
import Derived.Test.YthkdfnbhlinhiaaMinex0
namespace Go.Proofs.Ythkdfnbhlinhiaa.Mine
open Go.RowKit Go.Proofs.YthkdfnbhlinhiaaW.PrintWords Go.Proofs.YthkdfnbhlinhiaaW.PrintLast Go.Proofs.YthkdfnbhlinhiaaW.PrintMore
attribute [local go_sem] max2_int min2_int max_two min_two max_three min_three max_four min_four   -- for this text's walks alone
set_option linter.unusedVariables false
set_option linter.unusedSimpArgs false

/-! ### nuncioref08_code: function 42 -/
def nuncioref08_code.f (a0 : Int) : Option (Int) := some (Int.tmod (wrap64 (a0)) 16)
set_option maxHeartbeats 8000000 in
set_option maxRecDepth 100000 in
theorem nuncioref08_code.calls (a0 : Int) (r : Int) (w : World) (h : nuncioref08_code.f a0 = some r) :
  Calls Try.prog 42 #[.int .u16 a0] w fun e w' => e = .returned (.int .i64 r)∧Drawn0 w w':=by
 have H : (some (Int.tmod (wrap64 (a0)) 16)) = some r:=h
 clear h
 obtain rfl:=Option.some.inj H
 go_enter Try.func42,Try.ntmps42
 go_wp2
 go_ret
 exact ⟨by first|rfl|(simp;done)|(simp [*];done),by repeat (first|exact Drawn0.refl _|apply Drawn0.step)⟩

end Go.Proofs.Ythkdfnbhlinhiaa.Mine
