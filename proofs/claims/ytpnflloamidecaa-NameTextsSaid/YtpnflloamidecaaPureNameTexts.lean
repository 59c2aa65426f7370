import Derived.Test.YtpnflloamidecaaMinex21
import Derived.Test.YtpnflloamidecaaPureNameMakes
import Derived.Test.YtpnflloamidecaaLText
namespace Go.Proofs.Ytpnflloamidecaa.Pure
open Go.RowKit Go.Proofs.Ytpnflloamidecaa.Mine Go.Proofs.YtpnflloamidecaaW.PrintWords Go.Proofs.YtpnflloamidecaaW.PrintLast Go.Proofs.YtpnflloamidecaaW.PrintMore

theorem texts_j0 {k : Nat} {s t : ByteArray} (hs : s.size ≤ 2000) (ht : t.size ≤ 2000) (hk : 30000 < k) : nunciolaw04_NameTexts.j0 (k + 1) s t false = some true := by
  simp only [nunciolaw04_NameTexts.j0]
  rw [if_neg (by simp), read_f (by omega) hk, rread_f (by omega) hk, Option.bind_some, Option.bind_some, text_f (by omega) (by omega), rtext_f (by omega) (by omega), Option.bind_some, Option.bind_some, if_pos rfl, if_pos rfl]
  simp
theorem NameTexts : nunciolaw04_NameTexts.Pure := by
  intro a b _ _
  obtain ⟨K, hK⟩ : ∃ K, K = 200000 := ⟨_, rfl⟩
  have T : ∀ k a b, nunciolaw04_NameTexts.j0 (k + 1) a b true = some true := by
    intro k a b
    simp only [nunciolaw04_NameTexts.j0]; rw [if_pos trivial]
  refine ⟨K + 1, ?_⟩
  unfold nunciolaw04_NameTexts.f
  rw [awake04 (by omega), Option.bind_some, if_pos rfl]
  by_cases h1 : (a.size : Int) > 2000
  · rw [if_pos h1]; exact T _ _ _
  rw [if_neg h1]
  by_cases h2 : (b.size : Int) > 2000
  · rw [decide_eq_true h2]; exact T _ _ _
  · rw [decide_eq_false h2]; exact texts_j0 (by omega) (by omega) (by omega)
end Go.Proofs.Ytpnflloamidecaa.Pure
