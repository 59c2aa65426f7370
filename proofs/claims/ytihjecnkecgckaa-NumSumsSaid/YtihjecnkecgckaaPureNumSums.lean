/- Sums and products are just the document's: the true ones, or the greatest number: for any two numbers. -/
import Derived.Test.YtihjecnkecgckaaMinex2
import Derived.Test.YtihjecnkecgckaaLSum
namespace Go.Proofs.Ytihjecnkecgckaa.Pure
open Go.RowKit Go.Proofs.Ytihjecnkecgckaa.Mine Go.Proofs.YtihjecnkecgckaaW.PrintWords Go.Proofs.YtihjecnkecgckaaW.PrintLast Go.Proofs.YtihjecnkecgckaaW.PrintMore

theorem refadd64_f {a b : Int} (ha : U64 a) (hb : U64 b) : nuncioref01_Add64.f a b = some (min (a + b) 18446744073709551615) := by
  unfold U64 at ha hb
  unfold nuncioref01_Add64.f
  rw [wu64, wu64]
  split
  · congr 1; omega
  · congr 1; omega
theorem refadd32_f {a b : Int} (ha : 0 ≤ a) (ha2 : a < 4294967296) (hb : 0 ≤ b) (hb2 : b < 4294967296) : nuncioref01_Add32.f a b = some (min (a + b) 4294967295) := by
  unfold nuncioref01_Add32.f
  rw [wu64_id ha (by omega), wu64_id hb (by omega), wu64_id (by omega) (by omega)]
  split
  · congr 1; omega
  · congr 1; omega
theorem refmul_l0 : ∀ (d k : Nat) (a b out : Int), U64 a → U64 out → 0 ≤ b → b < 2 ^ d → d ≤ 64 → d < k → nuncioref01_Mul64.l0 k a b out = some (min (out + a * b) 18446744073709551615)
  | 0, k, a, b, out, ha, ho, h0, h1, hd, hk => by
    obtain ⟨k, rfl⟩ : ∃ m, k = m + 1 := ⟨k - 1, by omega⟩
    have hb : b = 0 := by simp at h1; omega
    subst hb
    unfold U64 at ho
    simp only [nuncioref01_Mul64.l0]
    rw [if_neg (by omega), Int.mul_zero]
    congr 1; omega
  | d + 1, k, a, b, out, ha, ho, h0, h1, hd, hk => by
    obtain ⟨k, rfl⟩ : ∃ m, k = m + 1 := ⟨k - 1, by omega⟩
    have ha' := ha; have ho' := ho
    unfold U64 at ha' ho'
    have hs : ∀ x y : Int, U64 x → U64 y → U64 (min (x + y) 18446744073709551615) := by intro x y hx hy; unfold U64 at *; omega
    simp only [nuncioref01_Mul64.l0]
    by_cases hb : b > 0
    · have hpd : (2 : Int) ^ (d + 1) ≤ 2 ^ 64 := by exact_mod_cast Nat.pow_le_pow_right (by omega) hd
      have h64 : (2 : Int) ^ 64 = 18446744073709551616 := by decide
      have hb2 : b / 2 < 2 ^ d := by rw [Int.pow_succ] at h1; omega
      rw [if_pos hb, tmod_pos _ h0, tdiv_pos _ h0, wu64_id (by omega) (by omega)]
      have hbq : b = 2 * (b / 2) + b % 2 := by omega
      generalize b / 2 = q at *
      have hq0 : 0 ≤ q := by omega
      have step : ∀ (r : Int) (out' : Int), U64 out' → b = 2 * q + r → out' = min (out + r * a) 18446744073709551615 → 0 ≤ r → 
          (if q > 0 then (nuncioref01_Add64.f a a).bind fun t => nuncioref01_Mul64.l0 k t q out' else nuncioref01_Mul64.l0 k a q out') = some (min (out + a * b) 18446744073709551615) := by
        intro r out' ho2 hbr he hr
        have hab : a * b = 2 * a * q + r * a := by rw [hbr]; grind
        by_cases hq : q > 0
        · rw [if_pos hq, refadd64_f ha ha]
          simp only [Option.bind_some]
          rw [refmul_l0 d k _ q out' (hs a a ha ha) ho2 hq0 hb2 (by omega) (by omega), hab, he]
          have hra : 0 ≤ r * a := Int.mul_nonneg hr ha'.1
          by_cases hm : a + a ≤ 18446744073709551615
          · rw [show min (a + a) 18446744073709551615 = 2 * a by omega]
            have hx : 0 ≤ 2 * a * q := Int.mul_nonneg (by omega) hq0
            congr 1; omega
          · rw [show min (a + a) 18446744073709551615 = 18446744073709551615 by omega]
            have hx : 2 * a * 1 ≤ 2 * a * q := Int.mul_le_mul_of_nonneg_left (by omega) (by omega)
            congr 1; omega
        · have hq : q = 0 := by omega
          subst hq
          rw [if_neg hq, refmul_l0 d k a 0 out' ha ho2 (by omega) hb2 (by omega) (by omega), hab, he]
          have hra : 0 ≤ r * a := Int.mul_nonneg hr ha'.1
          rw [Int.mul_zero, Int.mul_zero]
          congr 1; omega
      by_cases hr : b % 2 = 1
      · rw [if_pos hr, refadd64_f ho ha]
        simp only [Option.bind_some]
        exact step 1 _ (hs out a ho ha) (by omega) (by rw [Int.one_mul]) (by omega)
      · rw [if_neg hr]
        exact step 0 out ho (by omega) (by rw [Int.zero_mul]; omega) (by omega)
    · rw [if_neg hb]
      have : b = 0 := by omega
      subst this
      rw [Int.mul_zero]
      congr 1; omega
theorem awake01m : nunciolaw01_awake.f 70 = some true := by decide +kernel
theorem NumSums : nunciolaw01_NumSums.Pure := by
  intro a b ha hb
  have ha : U64 a := b_u64 ha
  have hb : U64 b := b_u64 hb
  refine ⟨70, ?_⟩
  unfold nunciolaw01_NumSums.f nuncioref01_Mul64.f
  have hb' := hb
  unfold U64 at hb'
  rw [awake01m]
  simp only [Option.bind_some, if_true]
  rw [add32_f (by omega) (by omega) (by omega) (by omega), refadd32_f (by omega) (by omega) (by omega) (by omega)]
  simp only [Option.bind_some, if_true]
  rw [add64_f ha hb, refadd64_f ha hb]
  simp only [Option.bind_some, if_true]
  have h64 : (2 : Int) ^ 64 = 18446744073709551616 := by decide
  rw [mul64_f ha hb, refmul_l0 64 70 a b 0 ha ⟨by omega, by omega⟩ hb'.1 (by omega) (by omega) (by omega)]
  simp
end Go.Proofs.Ytihjecnkecgckaa.Pure
