/- What the printed sums and products of num answer. -/
import Derived.Test.YtihjecnkecgckaaMinex1
import Derived.Test.YtihjecnkecgckaaLBase
namespace Go.Proofs.Ytihjecnkecgckaa.Pure
open Go.RowKit Go.Proofs.Ytihjecnkecgckaa.Mine Go.Proofs.YtihjecnkecgckaaW.PrintWords Go.Proofs.YtihjecnkecgckaaW.PrintLast Go.Proofs.YtihjecnkecgckaaW.PrintMore

def U64 (a : Int) : Prop := 0 ≤ a ∧ a ≤ 18446744073709551615
theorem add64_f {a b : Int} (ha : U64 a) (hb : U64 b) : num_Add64.f a b = some (min (a + b) 18446744073709551615) := by
  unfold U64 at ha hb
  unfold num_Add64.f
  rw [wu64]
  split
  · congr 1; omega
  · congr 1; omega
theorem add32_f {a b : Int} (ha : 0 ≤ a) (ha2 : a < 4294967296) (hb : 0 ≤ b) (hb2 : b < 4294967296) : num_Add32.f a b = some (min (a + b) 4294967295) := by
  unfold num_Add32.f
  rw [wu64_id ha (by omega), wu64_id hb (by omega), wu64_id (by omega) (by omega)]
  congr 1
  unfold mn
  split <;> omega
theorem mul64_f {a b : Int} (ha : U64 a) (hb : U64 b) : num_Mul64.f a b = some (min (a * b) 18446744073709551615) := by
  unfold U64 at ha hb
  unfold num_Mul64.f
  by_cases h0 : a = 0
  · rw [if_pos h0]; subst h0
    rw [Int.zero_mul]
    rfl
  have hp : 0 < a := by omega
  rw [if_neg h0, tdiv_pos _ (by omega)]
  have hd : 0 ≤ (18446744073709551615 : Int) / a := Int.ediv_nonneg (by omega) (by omega)
  have hd2 : (18446744073709551615 : Int) / a ≤ 18446744073709551615 := Int.ediv_le_self _ (by omega)
  rw [wu64_id hd (by omega)]
  have hab : 0 ≤ a * b := Int.mul_nonneg (by omega) hb.1
  by_cases hg : b > 18446744073709551615 / a
  · rw [if_pos hg]
    have h2 : 18446744073709551615 < b * a := (Int.ediv_lt_iff_lt_mul hp).1 hg
    have h3 : b * a = a * b := Int.mul_comm b a
    congr 1; omega
  · rw [if_neg hg]
    have h2 : b * a ≤ 18446744073709551615 := (Int.le_ediv_iff_mul_le hp).1 (by omega)
    have h3 : b * a = a * b := Int.mul_comm b a
    rw [wu64_id hab (by omega)]
    congr 1; omega
end Go.Proofs.Ytihjecnkecgckaa.Pure
