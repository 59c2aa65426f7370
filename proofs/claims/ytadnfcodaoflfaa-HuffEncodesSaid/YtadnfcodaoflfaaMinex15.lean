-- Written by this repo's own printer (wip/print), which builds on the kit's.
import Derived.Test.YtadnfcodaoflfaaMinex0
import Derived.Test.YtadnfcodaoflfaaMinex1
import Derived.Test.YtadnfcodaoflfaaMinex2
import Derived.Test.YtadnfcodaoflfaaMinex3
namespace Go.Proofs.Ytadnfcodaoflfaa.Mine
open Go.RowKit Go.Proofs.YtadnfcodaoflfaaW.PrintWords Go.Proofs.YtadnfcodaoflfaaW.PrintLast Go.Proofs.YtadnfcodaoflfaaW.PrintMore
attribute [local go_sem] max2_int min2_int max_two min_two max_three min_three max_four min_four   -- for this text's walks alone
set_option linter.unusedVariables false
set_option linter.unusedSimpArgs false

/-! ### huff_Code: function 16 (by hand) -/
def huff_Code.f (a0 : Int) : Option (Int × Int) := if a0 < 0 then some (0, 0) else if a0 > 256 then some (0, 0) else (huff_bits.f a0).bind fun t => some (hb0 a0, t)
set_option maxHeartbeats 4000000 in
set_option maxRecDepth 100000 in
theorem huff_Code.calls (a0 : Int) (r1 : Int) (r2 : Int) (w : World) (h : huff_Code.f a0 = some (r1, r2)) :
  Calls Try.prog 16 #[.int .i64 a0] w fun e w' => e = .returned (.tuple #[.int .u32 r1, .int .i64 r2]) ∧ Below w.heap.size w w' := by
 have H : (if a0 < 0 then some (0, 0) else if a0 > 256 then some (0, 0) else (huff_bits.f a0).bind fun t => some (hb0 a0, t)) = some (r1, r2) := h
 clear h
 by_cases c1 : a0 < 0
 ·
  rw [if_pos c1] at H
  simp only [Option.some.injEq, Prod.mk.injEq] at H
  obtain ⟨rfl, rfl⟩ := H
  have c1b : decide (a0 < 0) = true := decide_eq_true c1
  clear c1
  go_enter Try.func16, Try.ntmps16
  go_wp2
  go_ret2
  exact ⟨rfl, Below.refl _ _⟩
 ·
  rw [if_neg c1] at H
  by_cases c2 : a0 > 256
  ·
   rw [if_pos c2] at H
   simp only [Option.some.injEq, Prod.mk.injEq] at H
   obtain ⟨rfl, rfl⟩ := H
   have c1b : decide (a0 < 0) = false := decide_eq_false c1
   have c2b : decide (256 < a0) = true := decide_eq_true c2
   clear c1 c2
   go_enter Try.func16, Try.ntmps16
   go_wp2
   go_ret2
   exact ⟨rfl, Below.refl _ _⟩
  ·
   rw [if_neg c2] at H
   obtain ⟨t, ht, H⟩ := Option.bind_eq_some_iff.mp H
   simp only [Option.some.injEq, Prod.mk.injEq] at H
   obtain ⟨rfl, rfl⟩ := H
   have c1b : decide (a0 < 0) = false := decide_eq_false c1
   have c2b : decide (256 < a0) = false := decide_eq_false c2
   have HT := Aside0.mk ht
   clear ht
   have h0 : 0 ≤ a0 := by omega
   have h1 : a0 < 257 := by omega
   clear c1 c2
   go_enter Try.func16, Try.ntmps16
   go_wp2
   go_region_with (first | ((with_reducible refine (huff_made.made _).mono ?_); rintro e w1 ⟨gb, rfl, hc1, hg1, hb1⟩; have hx1 := hb0_at (w0 := w) (W := w1) (g := gb) ⟨hc1, hg1⟩ a0 h0 h1) | ((with_reducible refine (huff_bits.calls a0 t _ HT.out).mono ?_); rintro e w2 ⟨rfl, ⟨nd, rfl⟩⟩))
   all_goals (go_wp2; go_ret2)
   all_goals
    refine ⟨rfl, ?_⟩
    exact below_step (below_drew1 (Below.refl w.heap.size w)) (pw_below_drewN hb1 nd)

end Go.Proofs.Ytadnfcodaoflfaa.Mine
