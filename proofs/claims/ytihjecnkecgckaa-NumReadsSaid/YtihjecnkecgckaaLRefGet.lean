/- What the printed nuncioref01.Part and nuncioref01.Get answer. -/
import Derived.Test.YtihjecnkecgckaaMinex9
import Derived.Test.YtihjecnkecgckaaLGet
namespace Go.Proofs.Ytihjecnkecgckaa.Pure
open Go.RowKit Go.Proofs.Ytihjecnkecgckaa.Mine Go.Proofs.YtihjecnkecgckaaW.PrintWords Go.Proofs.YtihjecnkecgckaaW.PrintLast Go.Proofs.YtihjecnkecgckaaW.PrintMore

theorem rpart_eq (s : ByteArray) (at_ n : Int) : nuncioref01_Part.f s at_ n = num_Part.f s at_ n := rfl
theorem rget_l0 (s : ByteArray) (n : Nat) (hs : s.size = n) (h8 : n ≤ 8) : ∀ (d k i : Nat) (acc : Int), i + d = n → d < k → 0 ≤ acc → acc < 256 ^ i →
    nuncioref01_Get.l0 k (n : Int) s acc (i : Int) = some (beVal acc ((bytesOf s).drop i), true)
  | 0, k, i, acc, hd, hk, h0, h1 => by
    obtain ⟨k, rfl⟩ : ∃ m, k = m + 1 := ⟨k - 1, by omega⟩
    have hl := size_bytesOf s
    simp only [nuncioref01_Get.l0]
    rw [if_neg (by omega), List.drop_eq_nil_of_le (by omega)]
    rfl
  | d + 1, k, i, acc, hd, hk, h0, h1 => by
    obtain ⟨k, rfl⟩ : ∃ m, k = m + 1 := ⟨k - 1, by omega⟩
    have hl := size_bytesOf s
    have hi : i < (bytesOf s).length := by omega
    have hbx := bytesOf_bytes s (bytesOf s)[i] (List.getElem_mem hi)
    have e1 : wrap64 ((i : Int) + 1) = ((i + 1 : Nat) : Int) := by rw [w64 (by omega) (by omega)]; omega
    have hp : (256 : Int) ^ (i + 1) ≤ 256 ^ 8 := pow256_le (by omega : i + 1 ≤ 8)
    have hlt : acc * 256 < 256 ^ (i + 1) := by rw [Int.pow_succ]; omega
    have hlt2 : acc * 256 + 255 < 256 ^ (i + 1) := by rw [Int.pow_succ]; omega
    have h8 : (256 : Int) ^ 8 = 18446744073709551616 := by decide
    simp only [nuncioref01_Get.l0]
    rw [if_pos (by omega), if_pos (by omega), if_pos (by omega), bt_eq, rd_nat hi, wu64_id (n := acc * 256) (by omega) (by omega), wu64_id (n := (bytesOf s)[i]) hbx.1 (by omega), wu64_id (n := acc * 256 + (bytesOf s)[i]) (by omega) (by omega), e1,
      rget_l0 s n hs (by omega) d k (i + 1) _ (by omega) (by omega) (by omega) (by omega)]
    conv => rhs; rw [List.drop_eq_getElem_cons hi, beVal_cons]
theorem rget_yes {k : Nat} {s : ByteArray} {at_ n : Int} (hs : s.size ≤ 4611686018427387904) (h0 : 0 ≤ at_) (h1 : 1 ≤ n) (h8 : n ≤ 8) (h2 : at_ + n ≤ s.size) (hk : 9 < k) :
    nuncioref01_Get.f k s at_ n = some (beVal 0 (((bytesOf s).drop at_.toNat).take n.toNat), true) := by
  obtain ⟨k, rfl⟩ : ∃ m, k = m + 1 := ⟨k - 1, by omega⟩
  have hx : bytesOf (s.extract at_.toNat (at_ + n).toNat) = ((bytesOf s).drop at_.toNat).take n.toNat := by
    rw [bytesOf_extract, show (at_ + n).toNat - at_.toNat = n.toNat by omega]
  have hsz := size_bytesOf s
  have hlen : (((bytesOf s).drop at_.toNat).take n.toNat).length = n.toNat := by rw [List.length_take, List.length_drop]; omega
  have hsz2 := size_bytesOf (s.extract at_.toNat (at_ + n).toNat)
  rw [hx, hlen] at hsz2
  unfold nuncioref01_Get.f
  rw [if_neg (by omega), show decide (n > 8) = false from decide_eq_false (by omega)]
  simp only [nuncioref01_Get.j0]
  rw [if_neg (by simp), rpart_eq, part_yes hs h0 (by omega) h2]
  simp only [Option.bind_some, if_true]
  have := rget_l0 _ n.toNat hsz2 (by omega) n.toNat k 0 0 (by omega) (by omega) (by omega) (by simp)
  rw [List.drop_zero, hx, Int.toNat_of_nonneg (by omega)] at this
  exact this
theorem rget_no {k : Nat} {s : ByteArray} {at_ n : Int} (hs : s.size ≤ 4611686018427387904) (h : at_ < 0 ∨ n < 1 ∨ 8 < n ∨ (s.size : Int) < at_ + n) (hk : 0 < k) : nuncioref01_Get.f k s at_ n = some (0, false) := by
  obtain ⟨k, rfl⟩ : ∃ m, k = m + 1 := ⟨k - 1, by omega⟩
  unfold nuncioref01_Get.f
  by_cases h1 : n < 1
  · rw [if_pos h1]; simp [nuncioref01_Get.j0]
  rw [if_neg h1]
  by_cases h8 : n > 8
  · rw [decide_eq_true h8]; simp [nuncioref01_Get.j0]
  rw [show decide (n > 8) = false from decide_eq_false h8]
  simp only [nuncioref01_Get.j0]
  rw [if_neg (by simp), rpart_eq, part_no hs (by omega)]
  simp
end Go.Proofs.Ytihjecnkecgckaa.Pure
