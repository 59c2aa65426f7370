import Derived.Test.YtebnbjnkameicaaMinex22
import Derived.Test.YtebnbjnkameicaaMinex13
import Derived.Test.YtebnbjnkameicaaLRRec
namespace Go.Proofs.Ytebnbjnkameicaa.Pure
open Go.RowKit Go.Proofs.Ytebnbjnkameicaa.Mine Go.Proofs.YtebnbjnkameicaaW.PrintWords Go.Proofs.YtebnbjnkameicaaW.PrintLast Go.Proofs.YtebnbjnkameicaaW.PrintMore
set_option linter.unusedSimpArgs false
set_option linter.unusedVariables false

theorem awake05 {k : Nat} (hk : 400 ≤ k) : nunciolaw05_awake.f k = some true := by
  have h : nunciolaw05_awake.f 400 = some true := by decide +kernel
  exact leO_ge (nunciolaw05_awake.mono) h hk
theorem DataChecks : nunciolaw05_DataChecks.Pure := by
  intro a t c e ns us ts q _ _ _ _ hns hus hts _
  obtain ⟨K, hK, hK2⟩ : ∃ K, 60001 ≤ K ∧ ns.length + ts.length < K := ⟨60001 + ns.length + ts.length, by omega, by omega⟩
  refine ⟨K, ?_⟩
  obtain ⟨b, e1, f1⟩ := rfew_f (k := K) a t c e ns us ts (by omega) (by omega) hus.2.2 hK2
  unfold nunciolaw05_DataChecks.f
  rw [awake05 (by omega), Option.bind_some, if_pos rfl, e1, Option.bind_some]
  cases b with
  | false => rw [if_neg (by simp)]
  | true =>
    obtain ⟨_, _, _, _, hr⟩ := f1 rfl
    rw [if_pos rfl, shape_f _ (by omega), rshape_f _ (by omega), Option.bind_some, Option.bind_some, if_pos rfl, if_pos rfl, if_pos rfl, check_f _ _ _ hr (by omega), rcheck_f _ _ _ hr (by omega), Option.bind_some, Option.bind_some, if_pos rfl, cplain_f _ _ _ hr (by omega), rcplain_f _ _ _ hr (by omega), Option.bind_some, Option.bind_some]
    simp
end Go.Proofs.Ytebnbjnkameicaa.Pure
