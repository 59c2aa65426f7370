-- Written by this repo's own printer (wip/print), which builds on the kit's.
import Derived.Test.YtkcgenilgboimaaWf
import Derived.Test.YtkcgenilgboimaaMinex0
import Derived.Test.YtkcgenilgboimaaMinex1
import Derived.Test.YtkcgenilgboimaaMinex8
import Derived.Test.YtkcgenilgboimaaMinex9
import Derived.Test.YtkcgenilgboimaaMinex10
namespace Go.Proofs.Ytkcgenilgboimaa.Mine
open Go.RowKit Go.Proofs.YtkcgenilgboimaaW.PrintWords Go.Proofs.YtkcgenilgboimaaW.PrintLast Go.Proofs.YtkcgenilgboimaaW.PrintMore
attribute [local go_sem] max2_int min2_int max_two min_two max_three min_three max_four min_four   -- for this text's walks alone
set_option linter.unusedVariables false
set_option linter.unusedSimpArgs false

attribute [local go_sem high] eqA26
/-! ### nunciolaw16_SettingsOrder: function 4 -/
def nunciolaw16_SettingsOrder.f (k : Nat) (a0 : Bool) (l1 : List (S42)) (l2 : List (S42)) : Option (Bool) := nunciolaw16_SettingsOrder_p0.f k a0 l1 l2 <|> nunciolaw16_SettingsOrder_p1.f k a0 l1 l2 <|> nunciolaw16_SettingsOrder_p2.f k a0 l1 l2
theorem nunciolaw16_SettingsOrder.calls (k : Nat) (a0 : Bool) (A1 : Option Addr) (c1 : Nat) (l1 : List (S42)) (A2 : Option Addr) (c2 : Nat) (l2 : List (S42)) (r : Bool) (w : World) (hr1 : Kd.C k42 w A1 l1.length l1) (hc1 : l1.length ≤ c1) (hr2 : Kd.C k42 w A2 l2.length l2) (hc2 : l2.length ≤ c2) (h : nunciolaw16_SettingsOrder.f k a0 l1 l2 = some r) (hT : r = true) :
  Calls Try.prog 4 #[.bool a0, .slice A1 l1.length c1, .slice A2 l2.length c2] w fun e w' => e = .returned (.bool r) ∧ Below w.heap.size w w' := by
 unfold nunciolaw16_SettingsOrder.f at h
 cases e0 : nunciolaw16_SettingsOrder_p0.f k a0 l1 l2 with
 | some r0 => rw [e0] at h; exact nunciolaw16_SettingsOrder_p0.calls k a0 A1 c1 l1 A2 c2 l2 r w hr1 hc1 hr2 hc2 (e0.trans h) hT
 | none =>
 rw [e0] at h
 replace h : (nunciolaw16_SettingsOrder_p1.f k a0 l1 l2 <|> nunciolaw16_SettingsOrder_p2.f k a0 l1 l2) = some r := h
 cases e1 : nunciolaw16_SettingsOrder_p1.f k a0 l1 l2 with
 | some r0 => rw [e1] at h; exact nunciolaw16_SettingsOrder_p1.calls k a0 A1 c1 l1 A2 c2 l2 r w hr1 hc1 hr2 hc2 (e1.trans h) hT
 | none =>
 rw [e1] at h
 replace h : (nunciolaw16_SettingsOrder_p2.f k a0 l1 l2) = some r := h
 exact nunciolaw16_SettingsOrder_p2.calls k a0 A1 c1 l1 A2 c2 l2 r w hr1 hc1 hr2 hc2 h hT

/-- THE ONE PURE STATEMENT of nunciolaw16_SettingsOrder: yours. -/
def nunciolaw16_SettingsOrder.Pure : Prop := ∀ (a0 : Bool) (l1 : List (S42)) (l2 : List (S42)), (l1.length ≤ 9223372036854775807 ∧ l1.length * 8 ≤ 140737488351232 ∧ ∀ x_ ∈ l1, k42_wf x_) → (l2.length ≤ 9223372036854775807 ∧ l2.length * 8 ≤ 140737488351232 ∧ ∀ x_ ∈ l2, k42_wf x_) → ∃ k, nunciolaw16_SettingsOrder.f k a0 l1 l2 = some true
theorem nunciolaw16_SettingsOrder.walk (P : nunciolaw16_SettingsOrder.Pure) (a0 : Bool) (A1 : Option Addr) (c1 : Nat) (l1 : List (S42)) (A2 : Option Addr) (c2 : Nat) (l2 : List (S42)) (w : World) (hr1 : Kd.C k42 w A1 l1.length l1) (hc1 : l1.length ≤ c1) (hr2 : Kd.C k42 w A2 l2.length l2) (hc2 : l2.length ≤ c2) (w1 : l1.length ≤ 9223372036854775807 ∧ l1.length * 8 ≤ 140737488351232 ∧ ∀ x_ ∈ l1, k42_wf x_) (w2 : l2.length ≤ 9223372036854775807 ∧ l2.length * 8 ≤ 140737488351232 ∧ ∀ x_ ∈ l2, k42_wf x_) :
  Calls Try.prog 4 #[.bool a0, .slice A1 l1.length c1, .slice A2 l2.length c2] w fun e w' => e = .returned (.bool true) ∧ Below w.heap.size w w' := by
 obtain ⟨k, h⟩ := P a0 l1 l2 w1 w2
 refine (nunciolaw16_SettingsOrder.calls k a0 _ _ l1 _ _ l2 true w hr1 hc1 hr2 hc2 h rfl).mono ?_
 rintro e w' ⟨rfl, hd⟩
 exact ⟨rfl, hd⟩

end Go.Proofs.Ytkcgenilgboimaa.Mine
