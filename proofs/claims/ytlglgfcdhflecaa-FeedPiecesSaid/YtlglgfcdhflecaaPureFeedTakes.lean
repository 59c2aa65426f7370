import Derived.Test.YtlglgfcdhflecaaMinex11
import Derived.Test.YtlglgfcdhflecaaMinex6
import Derived.Test.YtlglgfcdhflecaaMinex2
import Derived.Test.YtlglgfcdhflecaaMinex5
import Derived.Test.YtlglgfcdhflecaaLFeed
namespace Go.Proofs.Ytlglgfcdhflecaa.Pure
open Go.RowKit Go.Proofs.Ytlglgfcdhflecaa.Mine Go.Proofs.YtlglgfcdhflecaaW.PrintWords Go.Proofs.YtlglgfcdhflecaaW.PrintLast Go.Proofs.YtlglgfcdhflecaaW.PrintMore
set_option linter.unusedSimpArgs false

/-- How many bytes all pieces have. -/
def tot : List ByteArray → Nat
  | [] => 0
  | x :: l => x.size + tot l
theorem few_l0 (l : List ByteArray) (hl : l.length ≤ 9000000000000) : ∀ (d k i : Nat) (n : Int), i + d = l.length → d < k → 0 ≤ n → n ≤ 200000 →
    ∃ b, nunciolaw15_Few.l0 k l n (i : Int) = some b ∧ (b = true → n + (tot (l.drop i) : Int) < 60000)
  | 0, k, i, n, hd, hk, h0, hn => by
    obtain ⟨k, rfl⟩ : ∃ m, k = m + 1 := ⟨k - 1, by omega⟩
    simp only [nunciolaw15_Few.l0]
    rw [if_neg (by omega), List.drop_eq_nil_of_le (by omega)]
    refine ⟨_, rfl, fun h => ?_⟩
    have := of_decide_eq_true h
    simp only [tot]
    omega
  | d + 1, k, i, n, hd, hk, h0, hn => by
    obtain ⟨k, rfl⟩ : ∃ m, k = m + 1 := ⟨k - 1, by omega⟩
    have hi : i < l.length := by omega
    have er : rdOf ByteArray.empty l (i : Int) = l[i] := by unfold rdOf; rw [Int.toNat_natCast]; simp [hi]
    simp only [nunciolaw15_Few.l0]
    rw [if_pos (by omega)]
    by_cases hc : n < 60000
    · have hm0 : 0 ≤ mn (l[i].size : Int) 60000 := by unfold mn; split <;> omega
      have hm1 : mn (l[i].size : Int) 60000 ≤ 60000 := by unfold mn; split <;> omega
      obtain ⟨b, hb, hb2⟩ := few_l0 l hl d k (i + 1) (n + mn (l[i].size : Int) 60000) (by omega) (by omega) (by omega) (by omega)
      rw [if_pos hc, if_pos (by omega), er, w64 (x := (i : Int) + 1) (by omega) (by omega), w64 (x := n + mn (l[i].size : Int) 60000) (by omega) (by omega)]
      refine ⟨b, hb, fun h => ?_⟩
      have h2 := hb2 h
      rw [List.drop_eq_getElem_cons hi]
      simp only [tot]
      have hm2 : mn (l[i].size : Int) 60000 < 60000 → mn (l[i].size : Int) 60000 = (l[i].size : Int) := by unfold mn; split <;> omega
      omega
    · rw [if_neg hc]
      exact ⟨_, rfl, fun h => absurd (of_decide_eq_true h) hc⟩
theorem few_f {k : Nat} (l : List ByteArray) (hl : l.length ≤ 9000000000000) (hk : l.length < k) : ∃ b, nunciolaw15_Few.f k l = some b ∧ (b = true → tot l < 60000) := by
  unfold nunciolaw15_Few.f
  have h0 : 0 ≤ mn (l.length : Int) 60000 := by unfold mn; split <;> omega
  have h1 : mn (l.length : Int) 60000 ≤ 60000 := by unfold mn; split <;> omega
  obtain ⟨b, hb, hb2⟩ := few_l0 l hl l.length k 0 (mn (l.length : Int) 60000) (by omega) hk h0 (by omega)
  refine ⟨b, hb, fun h => ?_⟩
  have := hb2 h
  rw [List.drop_zero] at this
  omega
theorem SP_range (w : Bool) (s : ByteArray) : 0 ≤ (SP w s).2.1 ∧ (SP w s).2.1 ≤ 6 := by
  have key : ∀ u, 0 ≤ (FR u).2.1 ∧ (FR u).2.1 ≤ 6 := fun u => by rcases FR_end u with h | h <;> omega
  cases w with
  | false => rw [SP_false]; exact key s
  | true =>
    by_cases h1 : hasP s
    · rw [SP_has h1]; exact key _
    · by_cases h2 : ofP s
      · rw [SP_of h1 h2]; simp
      · rw [SP_not h1 h2]; simp
theorem takes_l0 (w : Bool) (l : List ByteArray) (hl : l.length ≤ 100) (ht : tot l < 60000) : ∀ (d k i : Nat) (all : ByteArray) (got : List S40) (down : Bool) (held : ByteArray) (want dn : Bool), i + d = l.length → d + 100000 < k →
    (if down = true then held = E0 ∧ dn = true else (got = (SP w all).1 ∧ (SP w all).2.1 = 0 ∧ held = (SP w all).2.2.1 ∧ want = (SP w all).2.2.2.1 ∧ dn = false)) → all.size + tot (l.drop i) < 60000 →
    nunciolaw15_FeedTakes.l0 k w l all got down (i : Int) held want dn = some true
  | 0, k, i, all, got, down, held, want, dn, hd, hk, hs, ha => by
    obtain ⟨k, rfl⟩ : ∃ m, k = m + 1 := ⟨k - 1, by omega⟩
    simp only [nunciolaw15_FeedTakes.l0]
    rw [if_neg (by omega)]
  | d + 1, k, i, all, got, down, held, want, dn, hd, hk, hs, ha => by
    obtain ⟨k, rfl⟩ : ∃ m, k = m + 1 := ⟨k - 1, by omega⟩
    have hi : i < l.length := by omega
    have erd : rdOf ByteArray.empty l (i : Int) = l[i] := by unfold rdOf; rw [Int.toNat_natCast]; simp [hi]
    have htt : tot (l.drop i) = l[i].size + tot (l.drop (i + 1)) := by rw [List.drop_eq_getElem_cons hi]; rfl
    have e1 : wrap64 ((i : Int) + 1) = ((i + 1 : Nat) : Int) := by rw [w64 (by omega) (by omega)]; omega
    simp only [nunciolaw15_FeedTakes.l0]
    rw [if_pos (by omega), if_pos (by omega), erd, e1]
    by_cases hdn : down = true
    · rw [if_pos hdn] at hs
      obtain ⟨rfl, rfl⟩ := hs
      have ea : feed_Feed_Add.f k E0 want true l[i] = some ([], 0, E0, want, true) := by unfold feed_Feed_Add.f; rw [if_pos rfl]
      rw [ea, Option.bind_some, if_pos hdn, if_pos (by simp), if_pos rfl]
      simp only [feed_Feed_Down.f, feed_Feed_Held.f, Option.bind_some]
      rw [if_pos trivial, if_pos (by rfl)]
      exact takes_l0 w l hl ht d k (i + 1) all got down E0 want true (by omega) (by omega) (by rw [if_pos hdn]; exact ⟨rfl, rfl⟩) (by omega)
    · rw [if_neg hdn] at hs
      obtain ⟨rfl, h0, rfl, rfl, rfl⟩ := hs
      obtain ⟨fs, ea, hfs⟩ := add_f (k := k) w (s := all) (p := l[i]) (by omega) h0 (by omega)
      have hsz := SP_sizes w (all ++ l[i])
      have hap : (all ++ l[i]).size = all.size + l[i].size := ByteArray.size_append
      rw [hfs, List.length_append] at hsz
      have hdw := SP_down w (all ++ l[i])
      have hc0 := SP_code w (all ++ l[i])
      rw [ea, Option.bind_some, if_neg hdn, if_pos (by omega)]
      rw [if_pos (by show (SP w all).1.length + fs.length < _; omega), Option.bind_some, all_f w (s := all ++ l[i]) (by omega) (by omega), Option.bind_some]
      simp only
      rw [← hfs, same_f _ (by rw [hfs, List.length_append]; omega) (by rw [hfs, List.length_append]; omega), Option.bind_some, if_pos rfl]
      have hcr := SP_range w (all ++ l[i])
      have hw : wrap64 (SP w (all ++ l[i])).2.1 = (SP w (all ++ l[i])).2.1 := w64 (by omega) (by omega)
      rw [if_pos hw]
      simp only [feed_Feed_Down.f, feed_Feed_Held.f, Option.bind_some]
      rw [if_pos trivial, hdw, if_neg (by simp)]
      refine takes_l0 w l hl ht d k (i + 1) (all ++ l[i]) _ _ _ _ _ (by omega) (by omega) ?_ (by omega)
      by_cases hz : (SP w (all ++ l[i])).2.1 = 0
      · rw [hz]
        rw [if_neg (by decide)]
        exact ⟨rfl, rfl, rfl, rfl, rfl⟩
      · rw [show ((SP w (all ++ l[i])).2.1 != 0) = true by simpa using hz, if_pos rfl]
        exact ⟨hc0 hz, rfl⟩
theorem awake15 {k : Nat} (hk : 400 ≤ k) : nunciolaw15_awake.f k = some true := by
  have h : nunciolaw15_awake.f 400 = some true := by decide +kernel
  exact leO_ge (nunciolaw15_awake.mono) h hk
theorem SP_empty (w : Bool) : (SP w E0) = ([], 0, E0, w, false) := by
  cases w with
  | true =>
    unfold SP
    rw [if_pos rfl, if_neg (fun h => absurd h.1 (by decide)), if_pos ((ofP_iff E0).2 ⟨by decide, fun j hj => absurd hj (Nat.not_lt_zero j)⟩)]
  | false =>
    unfold SP
    rw [if_neg (by simp), FR_short (by rfl)]
    rfl
theorem FeedTakes : nunciolaw15_FeedTakes.Pure := by
  intro w l hl
  obtain ⟨K, hK⟩ : ∃ K, K = l.length + 200000 := ⟨_, rfl⟩
  refine ⟨K + 1, ?_⟩
  have T : ∀ k w l, nunciolaw15_FeedTakes.j0 (k + 1) w l true = some true := by
    intro k w l
    simp only [nunciolaw15_FeedTakes.j0]; rw [if_pos trivial]
  obtain ⟨b, hb, hb2⟩ := few_f (k := K + 1) l (by omega) (by omega)
  unfold nunciolaw15_FeedTakes.f
  rw [awake15 (by omega), Option.bind_some, if_pos rfl, hb, Option.bind_some]
  by_cases h1 : b = true
  · rw [if_pos h1]
    by_cases h2 : (l.length : Int) > 100
    · rw [decide_eq_true h2]; exact T _ _ _
    rw [decide_eq_false h2]
    simp only [nunciolaw15_FeedTakes.j0]
    rw [if_neg (by simp)]
    simp only [feed_New.f, Option.bind_some]
    refine takes_l0 w l (by omega) (hb2 h1) l.length _ 0 E0 [] false E0 w false (by omega) (by omega) ?_ (by rw [List.drop_zero]; have := hb2 h1; show 0 + tot l < 60000; omega)
    rw [if_neg (by simp), SP_empty]
    exact ⟨rfl, rfl, rfl, rfl, rfl⟩
  · rw [if_neg h1]; exact T _ _ _
end Go.Proofs.Ytlglgfcdhflecaa.Pure
