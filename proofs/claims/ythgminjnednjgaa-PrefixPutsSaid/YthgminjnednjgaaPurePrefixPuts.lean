/- Put lays the document's integer, whatever stands ahead of it. -/
import Derived.Test.YthgminjnednjgaaMinex4
import Derived.Test.YthgminjnednjgaaMinex3
import Derived.Test.YthgminjnednjgaaLPrefix
namespace Go.Proofs.Ythgminjnednjgaa.Pure
open Go.RowKit Go.Proofs.Ythgminjnednjgaa.Mine Go.Proofs.YthgminjnednjgaaW.PrintWords Go.Proofs.YthgminjnednjgaaW.PrintLast Go.Proofs.YthgminjnednjgaaW.PrintMore

theorem awake09p : nunciolaw09_awake.f 20 = some true := by decide +kernel
theorem rfullp_l0 (bits : Int) : ∀ (d k i : Nat), i + d = nb bits → 1 ≤ i → d < k → nuncioref09_Full.l0 k bits (2 ^ i - 1) (i : Int) = some (ful bits)
  | 0, k, i, hd, h1, hk => by
    obtain ⟨k, rfl⟩ : ∃ m, k = m + 1 := ⟨k - 1, by omega⟩
    have hb := nb_range bits
    have hi : i = nb bits := by omega
    simp only [nuncioref09_Full.l0]
    by_cases c : (i : Int) < bits
    · rw [if_pos c, if_neg (by unfold nb at hi; omega), hi]; rfl
    · rw [if_neg c, hi]; rfl
  | d + 1, k, i, hd, h1, hk => by
    obtain ⟨k, rfl⟩ : ∃ m, k = m + 1 := ⟨k - 1, by omega⟩
    have hb := nb_range bits
    have hp : (2 : Int) ^ i ≤ 2 ^ 8 := by
      have h8 : i = 1 ∨ i = 2 ∨ i = 3 ∨ i = 4 ∨ i = 5 ∨ i = 6 ∨ i = 7 ∨ i = 8 := by omega
      rcases h8 with rfl | rfl | rfl | rfl | rfl | rfl | rfl | rfl <;> decide
    have hp0 : (0 : Int) < 2 ^ i := Int.pow_pos (by omega)
    simp only [nuncioref09_Full.l0]
    rw [if_pos (by unfold nb at hd; omega), if_pos (by omega), w64 (x := (i : Int) + 1) (by omega) (by omega), wu64_id (n := (2 ^ i - 1) * 2) (by omega) (by omega), wu64_id (n := (2 ^ i - 1) * 2 + 1) (by omega) (by omega),
      show ((2 : Int) ^ i - 1) * 2 + 1 = 2 ^ (i + 1) - 1 by rw [Int.pow_succ]; omega, show (i : Int) + 1 = ((i + 1 : Nat) : Int) by omega]
    exact rfullp_l0 bits d k (i + 1) (by omega) (by omega) (by omega)
theorem rfullp_f {k : Nat} (bits : Int) (hk : 8 ≤ k) : nuncioref09_Full.f k bits = some (ful bits) := by
  have hb := nb_range bits
  unfold nuncioref09_Full.f
  have := rfullp_l0 bits (nb bits - 1) k 1 (by omega) (by omega) (by omega)
  simpa using this
theorem str_cat (a b : List Int) : strOfNums a ++ strOfNums b = strOfNums (a ++ b) := by
  apply ByteArray.ext
  rw [ByteArray.data_append]
  simp [strOfNums]
theorem rput_l0 : ∀ (f k : Nat) (n : Int) (xs : List Int), f < k → 0 ≤ n → n < 128 ^ (f + 1) → n ≤ 18446744073709551615 → xs.length + f < 140737488355328 → nuncioref09_Put.l0 k (strOfNums xs) n = some (strOfNums (xs ++ vint f n))
  | 0, k, n, xs, hk, h0, h1, h2, hl => by
    obtain ⟨k, rfl⟩ : ∃ m, k = m + 1 := ⟨k - 1, by omega⟩
    have h2 : n < 128 := by simpa using h1
    simp only [nuncioref09_Put.l0]
    rw [if_neg (by omega), show n % 256 = n by omega, Option.bind_some, if_pos (by rw [strOfNums_size, strOfNums_size]; simp only [List.length_singleton]; omega), str_cat]; rfl
  | f + 1, k, n, xs, hk, h0, h1, h2, hl => by
    obtain ⟨k, rfl⟩ : ∃ m, k = m + 1 := ⟨k - 1, by omega⟩
    simp only [nuncioref09_Put.l0]
    by_cases hb : n > 127
    · have e1 : Int.tmod n 128 = n % 128 := Int.tmod_eq_emod_of_nonneg h0
      have e2 : Int.tdiv n 128 = n / 128 := Int.tdiv_eq_ediv_of_nonneg h0
      rw [if_pos hb, Option.bind_some, if_pos (by rw [strOfNums_size, strOfNums_size]; simp only [List.length_singleton]; omega), e1, e2, wu64_id (n := 128 + n % 128) (by omega) (by omega), wu64_id (n := n / 128) (by omega) (by omega), show (128 + n % 128) % 256 = 128 + n % 128 by omega, str_cat,
        rput_l0 f k (n / 128) _ (by omega) (by omega) (by rw [Int.pow_succ] at h1; omega) (by omega) (by rw [List.length_append, List.length_singleton]; omega), vint, if_pos (by omega), List.append_assoc]
      first | rfl | (rw [Int.add_comm]; rfl)
    · rw [if_neg hb, show n % 256 = n by omega, Option.bind_some, if_pos (by rw [strOfNums_size, strOfNums_size]; simp only [List.length_singleton]; omega), str_cat, vint, if_neg (by omega)]
theorem rput_f {k : Nat} {l : List Int} {first n : Int} (bits : Int) (hl : l.length ≤ 20000) (hf0 : 0 ≤ first) (hf1 : first < 256) (h0 : 0 ≤ n) (h1 : n ≤ 18446744073709551615) (hk : 10 ≤ k) :
    nuncioref09_Put.f k (strOfNums l) first bits n = some (strOfNums (l ++ encI first (ful bits) n)) := by
  have hr := ful_range bits
  have hs := ful_cases bits
  unfold nuncioref09_Put.f
  rw [rfullp_f bits (by omega)]
  simp only [Option.bind_some]
  unfold encI
  have hd0 : 0 ≤ first / (ful bits + 1) * (ful bits + 1) := Int.mul_nonneg (Int.ediv_nonneg hf0 (by omega)) (by omega)
  have hd1 : first / (ful bits + 1) * (ful bits + 1) + ful bits < 256 := by
    rcases hs with h | h | h | h | h | h | h | h <;> rw [h] <;> omega
  have hq : 0 ≤ first / (ful bits + 1) := Int.ediv_nonneg hf0 (by omega)
  have hq2 : first / (ful bits + 1) ≤ first := Int.ediv_le_self _ hf0
  have e0 : IntKind.u64.wrap (ful bits + 1) = ful bits + 1 := wu64_id (by omega) (by omega)
  have e1 : IntKind.u64.wrap first = first := wu64_id (by omega) (by omega)
  have e2 : Int.tdiv first (ful bits + 1) = first / (ful bits + 1) := Int.tdiv_eq_ediv_of_nonneg hf0
  have e3 : IntKind.u64.wrap (first / (ful bits + 1)) = first / (ful bits + 1) := wu64_id (by omega) (by omega)
  have e4 : IntKind.u64.wrap (first / (ful bits + 1) * (ful bits + 1)) = first / (ful bits + 1) * (ful bits + 1) := wu64_id (by omega) (by omega)
  rw [e0, e1, e2, e3, e4, if_neg (by omega)]
  by_cases hn : n < ful bits
  · rw [if_pos hn, if_pos hn, wu64_id (by omega) (by omega), if_pos (by rw [strOfNums_size, strOfNums_size]; simp only [List.length_singleton]; omega), str_cat, Int.emod_eq_of_lt (by omega) (by omega)]
  · have h10 : (128 : Int) ^ (9 + 1) = 1180591620717411303424 := by decide
    rw [if_neg hn, if_neg hn, wu64_id (n := first / (ful bits + 1) * (ful bits + 1) + ful bits) (by omega) (by omega), if_pos (by rw [strOfNums_size, strOfNums_size]; simp only [List.length_singleton]; omega), str_cat, Int.emod_eq_of_lt (by omega) (by omega), wu64_id (n := n - ful bits) (by omega) (by omega),
      rput_l0 9 k (n - ful bits) _ (by omega) (by omega) (by omega) (by omega) (by rw [List.length_append, List.length_singleton]; omega), List.append_assoc]
    rfl
theorem PrefixPuts : nunciolaw09_PrefixPuts.Pure := by
  intro l first bits n _ hl hb hf _ hn
  refine ⟨20, ?_⟩
  have hf := b_u8 hf
  have hn := b_u64 hn
  unfold nunciolaw09_PrefixPuts.f
  rw [awake09p]
  simp only [Option.bind_some, if_true]
  by_cases h1 : (l.length : Int) > 20000
  · rw [if_pos h1]
  rw [if_neg h1, pput_f bits (by omega) hf.1 (by omega) hn.1 hn.2 (by omega)]
  simp only [Option.bind_some]
  rw [rput_f bits (by omega) hf.1 (by omega) hn.1 hn.2 (by omega)]
  simp only [Option.bind_some, decide_true]
end Go.Proofs.Ythgminjnednjgaa.Pure
