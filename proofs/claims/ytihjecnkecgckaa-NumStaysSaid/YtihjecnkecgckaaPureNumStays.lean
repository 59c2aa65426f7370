/- Such sums and products don't hang on the order, and rise with each of their parts; a sum of three is one sum: for any numbers. -/
import Derived.Test.YtihjecnkecgckaaMinex3
import Derived.Test.YtihjecnkecgckaaLSum
namespace Go.Proofs.Ytihjecnkecgckaa.Pure
open Go.RowKit Go.Proofs.Ytihjecnkecgckaa.Mine Go.Proofs.YtihjecnkecgckaaW.PrintWords Go.Proofs.YtihjecnkecgckaaW.PrintLast Go.Proofs.YtihjecnkecgckaaW.PrintMore

theorem awake01s : nunciolaw01_awake.f 20 = some true := by decide +kernel
theorem NumStays : nunciolaw01_NumStays.Pure := by
  intro a b c ha hb hc
  have ha : U64 a := b_u64 ha
  have hb : U64 b := b_u64 hb
  have hc : U64 c := b_u64 hc
  refine ⟨20, ?_⟩
  have ha' := ha; have hb' := hb; have hc' := hc
  unfold U64 at ha' hb' hc'
  have hs : ∀ x y : Int, U64 x → U64 y → U64 (min (x + y) 18446744073709551615) := by intro x y hx hy; unfold U64 at *; omega
  unfold nunciolaw01_NumStays.f
  rw [awake01s]
  simp only [Option.bind_some, if_true]
  rw [add64_f ha hb, add64_f hb ha]
  simp only [Option.bind_some]
  rw [if_pos (by rw [Int.add_comm]), mul64_f ha hb, mul64_f hb ha]
  simp only [Option.bind_some]
  rw [if_pos (by rw [Int.mul_comm])]
  rw [add64_f (hs a b ha hb) hc, add64_f hb hc]
  simp only [Option.bind_some]
  rw [add64_f ha (hs b c hb hc)]
  simp only [Option.bind_some]
  have e3 : (min (min (a + b) 18446744073709551615 + c) 18446744073709551615 != min (a + min (b + c) 18446744073709551615) 18446744073709551615) = false := by
    rw [bne_eq_false_iff_eq]; omega
  rw [e3]
  have hj1 : nunciolaw01_NumStays.j1 18 a b false = some true := by
    have h0 : U64 0 := ⟨by omega, by omega⟩
    have h1 : U64 1 := ⟨by omega, by omega⟩
    simp only [nunciolaw01_NumStays.j1]
    rw [if_neg (by simp), add64_f ha hb]
    simp only [Option.bind_some]
    rw [if_pos (by omega), add32_f (by omega) (by omega) (by omega) (by omega)]
    simp only [Option.bind_some]
    rw [if_pos (by omega), add64_f ha h0]
    simp only [Option.bind_some]
    rw [if_pos (by omega), mul64_f ha h1]
    simp only [Option.bind_some]
    rw [if_pos (by rw [Int.mul_one]; omega), mul64_f ha h0]
    simp only [Option.bind_some, Int.mul_zero]
    decide
  simp only [nunciolaw01_NumStays.j0]
  rw [if_neg (by simp)]
  by_cases hbc : b ≤ c
  · rw [if_pos hbc, add64_f ha hb, add64_f ha hc]
    simp only [Option.bind_some]
    have hm : a * b ≤ a * c := Int.mul_le_mul_of_nonneg_left hbc ha'.1
    rw [if_neg (by omega), mul64_f ha hb, mul64_f ha hc]
    simp only [Option.bind_some]
    rw [show decide (min (a * b) 18446744073709551615 > min (a * c) 18446744073709551615) = false from decide_eq_false (by omega)]
    exact hj1
  · rw [if_neg hbc]; exact hj1
end Go.Proofs.Ytihjecnkecgckaa.Pure
