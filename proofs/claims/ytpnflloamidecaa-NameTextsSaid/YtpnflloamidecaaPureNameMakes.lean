import Derived.Test.YtpnflloamidecaaMinex13
import Derived.Test.YtpnflloamidecaaMinex9
import Derived.Test.YtpnflloamidecaaMinex12
import Derived.Test.YtpnflloamidecaaLName
namespace Go.Proofs.Ytpnflloamidecaa.Pure
open Go.RowKit Go.Proofs.Ytpnflloamidecaa.Mine Go.Proofs.YtpnflloamidecaaW.PrintWords Go.Proofs.YtpnflloamidecaaW.PrintLast Go.Proofs.YtpnflloamidecaaW.PrintMore
set_option linter.unusedSimpArgs false

theorem awake04 {k : Nat} (hk : 400 ≤ k) : nunciolaw04_awake.f k = some true := by
  have h : nunciolaw04_awake.f 400 = some true := by decide +kernel
  exact leO_ge (nunciolaw04_awake.mono) h hk
/-- How many bytes all pieces have. -/
def tot : List ByteArray → Nat
  | [] => 0
  | x :: l => x.size + tot l
theorem few_l0 (l : List ByteArray) (hl : l.length ≤ 9000000000000) : ∀ (d k i : Nat) (n : Int), i + d = l.length → d < k → 0 ≤ n → n ≤ 20000 →
    ∃ b, nunciolaw04_Few.l0 k l n (i : Int) = some b ∧ (b = true → n + (tot (l.drop i) : Int) < 5000)
  | 0, k, i, n, hd, hk, h0, hn => by
    obtain ⟨k, rfl⟩ : ∃ m, k = m + 1 := ⟨k - 1, by omega⟩
    simp only [nunciolaw04_Few.l0]
    rw [if_neg (by omega), List.drop_eq_nil_of_le (by omega)]
    refine ⟨_, rfl, fun h => ?_⟩
    have := of_decide_eq_true h
    simp only [tot]
    omega
  | d + 1, k, i, n, hd, hk, h0, hn => by
    obtain ⟨k, rfl⟩ : ∃ m, k = m + 1 := ⟨k - 1, by omega⟩
    have hi : i < l.length := by omega
    simp only [nunciolaw04_Few.l0]
    rw [if_pos (by omega)]
    by_cases hc : n < 5000
    · have hm0 : 0 ≤ mn (l[i].size : Int) 5000 := by unfold mn; split <;> omega
      have hm1 : mn (l[i].size : Int) 5000 ≤ 5000 := by unfold mn; split <;> omega
      obtain ⟨b, hb, hb2⟩ := few_l0 l hl d k (i + 1) (n + mn (l[i].size : Int) 5000) (by omega) (by omega) (by omega) (by omega)
      rw [if_pos hc, if_pos (by omega), rdo hi, w64 (x := (i : Int) + 1) (by omega) (by omega), w64 (x := n + mn (l[i].size : Int) 5000) (by omega) (by omega)]
      refine ⟨b, hb, fun h => ?_⟩
      have h2 := hb2 h
      rw [List.drop_eq_getElem_cons hi]
      simp only [tot]
      have hm2 : mn (l[i].size : Int) 5000 < 5000 → mn (l[i].size : Int) 5000 = (l[i].size : Int) := by unfold mn; split <;> omega
      omega
    · rw [if_neg hc]
      exact ⟨_, rfl, fun h => absurd (of_decide_eq_true h) hc⟩
theorem few_f {k : Nat} (l : List ByteArray) (hl : l.length ≤ 9000000000000) (hk : l.length < k) : ∃ b, nunciolaw04_Few.f k l = some b ∧ (b = true → l.length < 5000 ∧ tot l < 5000) := by
  unfold nunciolaw04_Few.f
  have h0 : 0 ≤ mn (l.length : Int) 5000 := by unfold mn; split <;> omega
  have h1 : mn (l.length : Int) 5000 ≤ 5000 := by unfold mn; split <;> omega
  have h2 : mn (l.length : Int) 5000 < 5000 → mn (l.length : Int) 5000 = (l.length : Int) := by unfold mn; split <;> omega
  obtain ⟨b, hb, hb2⟩ := few_l0 l hl l.length k 0 (mn (l.length : Int) 5000) (by omega) hk h0 (by omega)
  refine ⟨b, hb, fun h => ?_⟩
  have := hb2 h
  rw [List.drop_zero] at this
  omega
theorem makes_j0 {k : Nat} {l : List ByteArray} {s : ByteArray} (hl : l.length < 5000) (hs : s.size ≤ 5000) (hk : 20000 < k) : nunciolaw04_NameMakes.j0 (k + 1) l s false = some true := by
  obtain ⟨r, r1, r2⟩ := rlab_f (k := k) (s := s) (by omega) (by omega)
  simp only [nunciolaw04_NameMakes.j0]
  rw [if_neg (by simp), Option.bind_some, if_pos (by simp only [List.length_nil]; omega), List.nil_append, make_f (by omega) (by omega), rmake_f (by omega) (by omega), Option.bind_some, Option.bind_some, r1, Option.bind_some, is_f (by omega) (by omega), labels_f (by omega) (by omega), r2.snd,
    Option.bind_some, Option.bind_some, Option.bind_some, Option.bind_some]
  cases h : LB s with
  | none =>
    simp only [Option.isSome_none, Bool.false_eq_true, if_false, if_true, beq_self_eq_true, Option.getD_none]
    rw [lsame_f (by simp) (by simp; omega), Option.bind_some]
    simp
  | some ls =>
    have g := lab_len h
    simp only [Option.isSome_some, if_true, beq_self_eq_true, Option.getD_some]
    rw [r2.fst h, lsame_f (by omega) (by omega), Option.bind_some]
    simp
theorem NameMakes : nunciolaw04_NameMakes.Pure := by
  intro l s hl _
  obtain ⟨K, hK⟩ : ∃ K, K = l.length + 200000 := ⟨_, rfl⟩
  have T : ∀ k l s, nunciolaw04_NameMakes.j0 (k + 1) l s true = some true := by
    intro k l s
    simp only [nunciolaw04_NameMakes.j0]; rw [if_pos trivial]
  obtain ⟨b, hb, hb2⟩ := few_f (k := K + 1) l (by omega) (by omega)
  refine ⟨K + 1, ?_⟩
  unfold nunciolaw04_NameMakes.f
  rw [awake04 (by omega), Option.bind_some, if_pos rfl, hb, Option.bind_some]
  by_cases h1 : b = true
  · rw [if_pos h1]
    by_cases h2 : (s.size : Int) > 5000
    · rw [decide_eq_true h2]; exact T _ _ _
    · rw [decide_eq_false h2]; exact makes_j0 (hb2 h1).1 (by omega) (by omega)
  · rw [if_neg h1]; exact T _ _ _
end Go.Proofs.Ytpnflloamidecaa.Pure
