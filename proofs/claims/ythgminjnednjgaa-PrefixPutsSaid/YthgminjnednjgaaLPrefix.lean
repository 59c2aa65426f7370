/- What the printed prefix.Put and prefix.Get answer. -/
import Derived.Test.YthgminjnednjgaaMinex1
import Derived.Test.YthgminjnednjgaaMinex2
import Derived.Test.YthgminjnednjgaaLPre
namespace Go.Proofs.Ythgminjnednjgaa.Pure
open Go.RowKit Go.Proofs.Ythgminjnednjgaa.Mine Go.Proofs.YthgminjnednjgaaW.PrintWords Go.Proofs.YthgminjnednjgaaW.PrintLast Go.Proofs.YthgminjnednjgaaW.PrintMore

theorem full_f (bits : Int) : prefix_full.f bits = some (ful bits) := by
  have hb := nb_range bits
  have hr := ful_range bits
  have e : (mn (mx bits 1) 8).toNat = nb bits := by unfold mn mx nb; split <;> split <;> omega
  have hf : (2 : Int) ^ nb bits = ful bits + 1 := by unfold ful; omega
  unfold prefix_full.f
  have e2 : IntKind.u64.wrap (ful bits + 1) = ful bits + 1 := wu64_id (by omega) (by omega)
  rw [e, hf, e2, wu64_id (by omega) (by omega)]
  congr 1; omega
theorem pput_l0 : ∀ (f k : Nat) (n : Int) (xs : List Int), f < k → 0 ≤ n → n < 128 ^ (f + 1) → xs.length + f < 140737488355328 → prefix_Put.l0 k n xs = some (xs ++ vint f n)
  | 0, k, n, xs, hk, h0, h1, hl => by
    obtain ⟨k, rfl⟩ : ∃ m, k = m + 1 := ⟨k - 1, by omega⟩
    have h2 : n < 128 := by simpa using h1
    simp only [prefix_Put.l0]
    rw [if_neg (by omega), if_pos (by omega), show n % 256 = n by omega]; rfl
  | f + 1, k, n, xs, hk, h0, h1, hl => by
    obtain ⟨k, rfl⟩ : ∃ m, k = m + 1 := ⟨k - 1, by omega⟩
    simp only [prefix_Put.l0]
    by_cases hb : n ≥ 128
    · rw [if_pos hb, if_pos (by omega), or128 (by omega) (by omega), show n % 256 % 128 = n % 128 by omega,
        pput_l0 f k (n / 128) _ (by omega) (by omega) (by rw [Int.pow_succ] at h1; omega) (by rw [List.length_append, List.length_singleton]; omega), vint, if_pos hb, List.append_assoc]
      rfl
    · rw [if_neg hb, if_pos (by omega), show n % 256 = n by omega, vint, if_neg hb]
theorem pput_f {k : Nat} {l : List Int} {first n : Int} (bits : Int) (hl : l.length ≤ 140737488355000) (hf0 : 0 ≤ first) (hf1 : first < 256) (h0 : 0 ≤ n) (h1 : n ≤ 18446744073709551615) (hk : 10 ≤ k) :
    prefix_Put.f k l first bits n = some (l ++ encI first (ful bits) n) := by
  have hr := ful_range bits
  unfold prefix_Put.f
  rw [full_f]
  simp only [Option.bind_some]
  unfold encI
  by_cases hn : n < ful bits
  · rw [if_pos hn, if_pos (by omega), if_pos hn, head_or bits hf0 hf1 h0 (by omega)]
  · rw [if_neg hn, if_pos (by omega), if_neg hn]
    have e1 : Go.bits .or .u8 (Go.bits .andNot .u8 first (ful bits % 256)) (ful bits % 256) = first / (ful bits + 1) * (ful bits + 1) + ful bits := head_or bits hf0 hf1 (by omega) (by omega)
    have h10 : (128 : Int) ^ (9 + 1) = 1180591620717411303424 := by decide
    rw [e1, wu64_id (by omega) (by omega), pput_l0 9 k (n - ful bits) _ (by omega) (by omega) (by omega) (by rw [List.length_append, List.length_singleton]; omega), List.append_assoc]
    rfl

theorem pget_l0 (s : ByteArray) (a : Nat) (ha : a < s.size) (hs : s.size ≤ 4611686018427387904) : ∀ (rem i k : Nat) (n : Int), rem + i = 5 → rem < k → 0 ≤ n → n ≤ 4294967295 →
    prefix_Get.l0 k s (a : Int) n (i : Int) = some (getT rem i n ((bytesOf s).drop (a + 1 + i)) (a : Int))
  | 0, i, k, n, hr, hk, h0, h1 => by
    obtain ⟨k, rfl⟩ : ∃ m, k = m + 1 := ⟨k - 1, by omega⟩
    simp only [prefix_Get.l0]
    rw [if_neg (by omega), getT]
  | rem + 1, i, k, n, hr, hk, h0, h1 => by
    obtain ⟨k, rfl⟩ : ∃ m, k = m + 1 := ⟨k - 1, by omega⟩
    have hsz := size_bytesOf s
    simp only [prefix_Get.l0]
    rw [w64 (x := (a : Int) + 1) (by omega) (by omega), w64 (x := (a : Int) + 2) (by omega) (by omega), if_pos (by omega), w64 (x := (a : Int) + 1 + (i : Int)) (by omega) (by omega), show (a : Int) + 1 + (i : Int) = ((a + 1 + i : Nat) : Int) by omega]
    by_cases hb : ((a + 1 + i : Nat) : Int) ≥ (s.size : Int)
    · rw [if_pos hb, List.drop_eq_nil_of_le (by omega), getT]
    · have hi : a + 1 + i < (bytesOf s).length := by omega
      have hc := bytesOf_bytes s _ (List.getElem_mem hi)
      rw [if_neg hb, if_pos (by omega), if_pos (by omega), w64 (x := 7 * (i : Int)) (by omega) (by omega), if_pos (by omega), bt_eq, rd_nat hi, List.drop_eq_getElem_cons hi]
      generalize (bytesOf s)[a + 1 + i] = c at hc ⊢
      have h4 : (128 : Int) ^ i ≤ 128 ^ 4 := p128_le (by omega)
      have h44 : (128 : Int) ^ 4 = 268435456 := by decide
      have hp := p128_pos i
      have hcp : 0 ≤ c % 128 * 128 ^ i := Int.mul_nonneg (by omega) (by omega)
      have hcp2 : c % 128 * 128 ^ i ≤ 127 * 128 ^ i := Int.mul_le_mul_of_nonneg_right (by omega) (by omega)
      have e5 : shl .u64 (IntKind.u64.wrap (Go.bits .and .u8 c 127)) (7 * (i : Int)) = c % 128 * 128 ^ i := by
        unfold shl
        rw [and127 hc.1 hc.2, wu64_id (n := c % 128) (by omega) (by omega), show (7 * (i : Int)).toNat = 7 * i by omega, show IntKind.u64.bits = 64 from rfl, Nat.min_eq_left (by omega), p128, wu64_id hcp (by omega)]
      rw [e5, wu64_id (by omega) (by omega), getT]
      by_cases ho : n + c % 128 * 128 ^ i > 4294967295
      · rw [if_pos ho, if_pos ho]
      · rw [if_neg ho, if_neg ho]
        by_cases hl : c < 128
        · rw [if_pos hl, if_pos hl, w64 (x := (a : Int) + 2 + (i : Int)) (by omega) (by omega)]
        · rw [if_neg hl, if_neg hl, w64 (x := (i : Int) + 1) (by omega) (by omega), show (i : Int) + 1 = ((i + 1 : Nat) : Int) by omega, pget_l0 s a ha hs rem (i + 1) k _ (by omega) (by omega) (by omega) (by omega)]
          rfl
theorem pget_f {k : Nat} {s : ByteArray} {a : Int} (bits : Int) (hs : s.size ≤ 4611686018427387904) (hk : 8 ≤ k) : prefix_Get.f k s a bits = some (getI (ful bits) (bytesOf s) a) := by
  obtain ⟨k, rfl⟩ : ∃ m, k = m + 1 := ⟨k - 1, by omega⟩
  have hsz := size_bytesOf s
  have hr := ful_range bits
  unfold prefix_Get.f getI
  by_cases h0 : a < 0
  · rw [if_pos h0, if_pos (.inl h0)]
    simp [prefix_Get.j0]
  by_cases h1 : a ≥ (s.size : Int)
  · rw [if_neg h0, show decide (a ≥ (s.size : Int)) = true from decide_eq_true h1, if_pos (.inr (by omega))]
    simp [prefix_Get.j0]
  rw [if_neg h0, show decide (a ≥ (s.size : Int)) = false from decide_eq_false h1, if_neg (by omega)]
  obtain ⟨a, rfl⟩ := Int.eq_ofNat_of_zero_le (show 0 ≤ a by omega)
  have hi : a < (bytesOf s).length := by omega
  have hc := bytesOf_bytes s _ (List.getElem_mem hi)
  have hm1 := Int.emod_nonneg (bytesOf s)[a] (show ful bits + 1 ≠ 0 by omega)
  have hm2 := Int.emod_lt_of_pos (bytesOf s)[a] (show 0 < ful bits + 1 by omega)
  simp only [prefix_Get.j0]
  rw [if_neg (by simp), full_f]
  simp only [Option.bind_some]
  rw [if_pos (by omega), if_pos (by omega), bt_eq, rd_nat hi, wu64_id hc.1 (by omega), and_ful64 bits hc.1 hc.2]
  split
  · rw [w64 (by omega) (by omega)]
  · have := pget_l0 s a (by omega) hs 5 0 k ((bytesOf s)[a] % (ful bits + 1)) (by omega) (by omega) (by omega) (by omega)
    rw [Int.toNat_natCast]
    exact this
end Go.Proofs.Ythgminjnednjgaa.Pure
