/- What the document's functions answer: its codes. -/
import Derived.Test.YtadnfcodaoflfaaMinex7
import Derived.Test.YtadnfcodaoflfaaMinex6
import Derived.Test.YtadnfcodaoflfaaLHuffP
namespace Go.Proofs.Ytadnfcodaoflfaa.Pure
open Go.RowKit Go.Proofs.Ytadnfcodaoflfaa.Mine Go.Proofs.YtadnfcodaoflfaaW.PrintWords Go.Proofs.YtadnfcodaoflfaaW.PrintLast Go.Proofs.YtadnfcodaoflfaaW.PrintMore
set_option linter.unusedVariables false

theorem length_all : ∀ k : Fin 257, nuncioref10_Length.f ((k.val : Nat) : Int) = some ((hcLen k.val : Nat) : Int) := by decide +kernel
theorem length_f {c : Int} (h0 : 0 ≤ c) (h1 : c < 257) : nuncioref10_Length.f c = some ((hcLen c.toNat : Nat) : Int) := by
  have := length_all ⟨c.toNat, by omega⟩
  simp only at this
  rwa [show ((c.toNat : Nat) : Int) = c by omega] at this
/-- The document's codes. -/
def codesL : List Int := hcCodeL.map fun n => ((n : Nat) : Int)
theorem codes_f : Ev (fun k => nuncioref10_Codes.f k) codesL := Ev.of nuncioref10_Codes.mono (k := 7600) (by decide +kernel)
end Go.Proofs.Ytadnfcodaoflfaa.Pure
