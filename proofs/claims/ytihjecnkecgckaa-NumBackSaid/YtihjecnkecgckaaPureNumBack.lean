/- What was put is got back, at its place, but for what its size had no room for: for any bytes, any number, any size. -/
import Derived.Test.YtihjecnkecgckaaMinex2
import Derived.Test.YtihjecnkecgckaaLNum
namespace Go.Proofs.Ytihjecnkecgckaa.Pure
open Go.RowKit Go.Proofs.Ytihjecnkecgckaa.Mine Go.Proofs.YtihjecnkecgckaaW.PrintWords Go.Proofs.YtihjecnkecgckaaW.PrintLast Go.Proofs.YtihjecnkecgckaaW.PrintMore

theorem awake01 : nunciolaw01_awake.f 20 = some true := by decide +kernel
theorem NumBack : nunciolaw01_NumBack.Pure := by
  intro l n s _ hl hb hn hs
  refine ⟨20, ?_⟩
  have hB := bytes_wf hb
  have hn := b_u64 hn
  unfold nunciolaw01_NumBack.f
  rw [awake01]
  simp only [Option.bind_some, if_true]
  by_cases h1 : (l.length : Int) > 20000
  · rw [if_pos h1]; simp [nunciolaw01_NumBack.j0]
  rw [if_neg h1]
  by_cases h2 : s < 1
  · rw [if_pos h2]; simp [nunciolaw01_NumBack.j0]
  rw [if_neg h2]
  by_cases h3 : s > 8
  · rw [show decide (s > 8) = true from decide_eq_true h3]; simp [nunciolaw01_NumBack.j0]
  rw [show decide (s > 8) = false from decide_eq_false h3]
  obtain ⟨j, rfl⟩ := Int.eq_ofNat_of_zero_le (show 0 ≤ s by omega)
  have hz : szOf (j : Int) = j := by unfold szOf; omega
  have hbb : Bytes (l ++ be n j) := hB.append (be_bytes n j)
  have hlen : (l ++ be n j).length = l.length + j := by rw [List.length_append, be_length]
  have hsz : (strOfNums (l ++ be n j)).size = l.length + j := by rw [strOfNums_size, hlen]
  have hg : num_Get.f 19 (strOfNums (l ++ be n j)) (l.length : Int) (j : Int) = some (n % 256 ^ j, true) := by
    rw [get_yes (by omega) (by omega) (by omega) (by omega) (by omega) (by omega), bytesOf_str hbb, Int.toNat_natCast, Int.toNat_natCast, List.drop_left, List.take_of_length_le (by rw [be_length]; omega), beVal_be]
  simp only [nunciolaw01_NumBack.j0]
  rw [if_neg (by simp), put_f n (j : Int) (by omega) (by omega), hz]
  simp only [Option.bind_some]
  rw [hg]
  simp only [Option.bind_some, if_true]
  have hw : wrap64 ((l.length : Int) + (j : Int)) = ((l ++ be n j).length : Int) := by rw [w64 (by omega) (by omega), hlen]; omega
  by_cases h8 : (j : Int) < 8
  · have e2 : wrap64 (8 * (j : Int)) = 8 * (j : Int) := w64 (by omega) (by omega)
    have e3 : shl .u64 1 (8 * (j : Int)) = 256 ^ j := by
      unfold shl
      rw [show (8 * (j : Int)).toNat = 8 * j by omega, show IntKind.u64.bits = 64 from rfl, Nat.min_eq_left (by omega), pow8, Int.one_mul]
      have h7 : (256 : Int) ^ j ≤ 256 ^ 7 := pow256_le (by omega : j ≤ 7)
      have h77 : (256 : Int) ^ 7 = 72057594037927936 := by decide
      have h00 : (0 : Int) < 256 ^ j := Int.pow_pos (by omega)
      exact wu64_id (by omega) (by omega)
    have h00 : (0 : Int) < 256 ^ j := Int.pow_pos (by omega)
    rw [if_pos h8, e2, e3, if_pos (by omega), if_neg (by omega), tmod_pos _ hn.1, if_pos rfl, hw]
    simp
  · have hj : j = 8 := by omega
    subst hj
    have h88 : (256 : Int) ^ 8 = 18446744073709551616 := by decide
    rw [if_neg h8, if_pos (by rw [h88]; omega), hw]
    simp
end Go.Proofs.Ytihjecnkecgckaa.Pure
