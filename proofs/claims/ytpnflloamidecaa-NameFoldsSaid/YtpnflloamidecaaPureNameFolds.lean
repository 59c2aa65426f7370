import Derived.Test.YtpnflloamidecaaMinex17
import Derived.Test.YtpnflloamidecaaPureNameMakes
namespace Go.Proofs.Ytpnflloamidecaa.Pure
open Go.RowKit Go.Proofs.Ytpnflloamidecaa.Mine Go.Proofs.YtpnflloamidecaaW.PrintWords Go.Proofs.YtpnflloamidecaaW.PrintLast Go.Proofs.YtpnflloamidecaaW.PrintMore
set_option linter.unusedSimpArgs false

theorem SM_FO (a : ByteArray) : SM a (FO a) = (LB a).isSome := by
  unfold SM
  rw [LB_FO]
  unfold FO
  cases h : LB a with
  | none => rfl
  | some ls =>
    simp only [Option.isSome_some, if_true, Option.map_some, Bool.true_and]
    rw [fo_twice]
    simp
theorem folds_j0 {k : Nat} {a b : ByteArray} (ha : a.size ≤ 5000) (hb : b.size ≤ 5000) (hk : 20000 < k) : nunciolaw04_NameFolds.j0 (k + 1) a b false = some true := by
  have hf := FO_size a
  simp only [nunciolaw04_NameFolds.j0]
  rw [if_neg (by simp), fold_f (by omega) (by omega), rfold_f (by omega) (by omega), Option.bind_some, Option.bind_some, if_pos rfl, same_f (by omega) (by omega) (by omega), rsame_f (by omega) (by omega) (by omega), Option.bind_some, Option.bind_some, if_pos (by simp), under_f (by omega) (by omega) (by omega), runder_f (by omega) (by omega) (by omega), Option.bind_some, Option.bind_some, if_pos (by simp),
    under_f (by omega) (by omega) (by omega), runder_f (by omega) (by omega) (by omega), Option.bind_some, Option.bind_some, if_pos (by simp), Option.bind_some, same_f (by omega) (by omega) (by omega), Option.bind_some, is_f (by omega) (by omega), Option.bind_some, SM_FO]
  simp
theorem NameFolds : nunciolaw04_NameFolds.Pure := by
  intro a b _ _
  obtain ⟨K, hK⟩ : ∃ K, K = 200000 := ⟨_, rfl⟩
  have T : ∀ k a b, nunciolaw04_NameFolds.j0 (k + 1) a b true = some true := by
    intro k a b
    simp only [nunciolaw04_NameFolds.j0]; rw [if_pos trivial]
  refine ⟨K + 1, ?_⟩
  unfold nunciolaw04_NameFolds.f
  rw [awake04 (by omega), Option.bind_some, if_pos rfl]
  by_cases h1 : (a.size : Int) > 5000
  · rw [if_pos h1]; exact T _ _ _
  rw [if_neg h1]
  by_cases h2 : (b.size : Int) > 5000
  · rw [decide_eq_true h2]; exact T _ _ _
  · rw [decide_eq_false h2]; exact folds_j0 (by omega) (by omega) (by omega)
end Go.Proofs.Ytpnflloamidecaa.Pure
