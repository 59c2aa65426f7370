/- What the printed num.Part and num.Get answer. -/
import Derived.Test.YtihjecnkecgckaaMinex1
import Derived.Test.YtihjecnkecgckaaMinex2
import Derived.Test.YtihjecnkecgckaaLBase
namespace Go.Proofs.Ytihjecnkecgckaa.Pure
open Go.RowKit Go.Proofs.Ytihjecnkecgckaa.Mine Go.Proofs.YtihjecnkecgckaaW.PrintWords Go.Proofs.YtihjecnkecgckaaW.PrintLast Go.Proofs.YtihjecnkecgckaaW.PrintMore

theorem part_yes {s : ByteArray} {at_ n : Int} (hs : s.size ≤ 4611686018427387904) (h0 : 0 ≤ at_) (h1 : 0 ≤ n) (h2 : at_ + n ≤ s.size) : num_Part.f s at_ n = some (s.extract at_.toNat (at_ + n).toNat, true) := by
  have e1 : wrap64 ((s.size : Int) - at_) = (s.size : Int) - at_ := w64 (by omega) (by omega)
  have e2 : wrap64 (at_ + n) = at_ + n := w64 (by omega) (by omega)
  unfold num_Part.f
  rw [e1, e2, if_neg (by omega), if_neg (by omega), if_neg (by omega), if_neg (by omega), if_pos (by omega), if_pos (by omega), if_pos (by omega)]
theorem part_no {s : ByteArray} {at_ n : Int} (hs : s.size ≤ 4611686018427387904) (h : at_ < 0 ∨ n < 0 ∨ (s.size : Int) < at_ + n) : num_Part.f s at_ n = some ((⟨#[]⟩ : ByteArray), false) := by
  unfold num_Part.f
  by_cases h0 : at_ < 0
  · rw [if_pos h0]
  by_cases h1 : n < 0
  · rw [if_neg h0, if_pos h1]
  by_cases h2 : at_ > (s.size : Int)
  · rw [if_neg h0, if_neg h1, if_pos h2]
  have e1 : wrap64 ((s.size : Int) - at_) = (s.size : Int) - at_ := w64 (by omega) (by omega)
  rw [e1, if_neg h0, if_neg h1, if_neg h2, if_pos (by omega)]

theorem get_l0 (xs : List Int) (hb : Bytes xs) : ∀ (d k i : Nat) (acc : Int), i + d = xs.length → d < k → xs.length ≤ 8 → 0 ≤ acc → acc < 256 ^ i →
    num_Get.l0 k acc xs (xs.length : Int) (i : Int) = some (beVal acc (xs.drop i), true)
  | 0, k, i, acc, hd, hk, hx, h0, h1 => by
    obtain ⟨k, rfl⟩ : ∃ m, k = m + 1 := ⟨k - 1, by omega⟩
    simp only [num_Get.l0]
    rw [if_neg (by omega), List.drop_eq_nil_of_le (by omega)]
    rfl
  | d + 1, k, i, acc, hd, hk, hx, h0, h1 => by
    obtain ⟨k, rfl⟩ : ∃ m, k = m + 1 := ⟨k - 1, by omega⟩
    have hi : i < xs.length := by omega
    have hbx := hb xs[i] (List.getElem_mem hi)
    have e1 : wrap64 ((i : Int) + 1) = ((i + 1 : Nat) : Int) := by rw [w64 (by omega) (by omega)]; omega
    have hp : (256 : Int) ^ (i + 1) ≤ 256 ^ 8 := pow256_le (by omega : i + 1 ≤ 8)
    have hlt : acc * 256 < 256 ^ (i + 1) := by rw [Int.pow_succ]; omega
    have hlt2 : acc * 256 + 255 < 256 ^ (i + 1) := by rw [Int.pow_succ]; omega
    have h8 : (256 : Int) ^ 8 = 18446744073709551616 := by decide
    simp only [num_Get.l0]
    rw [if_pos (by omega), if_pos (by omega), if_pos (by omega), rd_nat hi, or_byte h0 (by omega) hbx.1 hbx.2, e1, get_l0 xs hb d k (i + 1) _ (by omega) (by omega) hx (by omega) (by omega)]
    conv => rhs; rw [List.drop_eq_getElem_cons hi, beVal_cons]

theorem get_yes {k : Nat} {s : ByteArray} {at_ n : Int} (hs : s.size ≤ 4611686018427387904) (h0 : 0 ≤ at_) (h1 : 1 ≤ n) (h8 : n ≤ 8) (h2 : at_ + n ≤ s.size) (hk : 9 < k) :
    num_Get.f k s at_ n = some (beVal 0 (((bytesOf s).drop at_.toNat).take n.toNat), true) := by
  obtain ⟨k, rfl⟩ : ∃ m, k = m + 1 := ⟨k - 1, by omega⟩
  have hx : bytesOf (s.extract at_.toNat (at_ + n).toNat) = ((bytesOf s).drop at_.toNat).take n.toNat := by
    rw [bytesOf_extract, show (at_ + n).toNat - at_.toNat = n.toNat by omega]
  have hsz := size_bytesOf s
  have hlen : (((bytesOf s).drop at_.toNat).take n.toNat).length = n.toNat := by rw [List.length_take, List.length_drop]; omega
  unfold num_Get.f
  rw [part_yes hs h0 (by omega) h2]
  simp only [Option.bind_some, if_true]
  rw [if_neg (by omega), show decide (n > 8) = false from decide_eq_false (by omega)]
  simp only [num_Get.j0]
  rw [if_neg (by simp), if_pos (by rw [size_bytesOf, hx, hlen]; omega)]
  simp only [Option.bind_some]
  rw [hx]
  have := get_l0 _ (((bytesOf_bytes s).drop at_.toNat).take n.toNat) n.toNat k 0 0 (by omega) (by omega) (by omega) (by omega) (by simp)
  rw [List.drop_zero] at this
  exact this
theorem get_no {k : Nat} {s : ByteArray} {at_ n : Int} (hs : s.size ≤ 4611686018427387904) (h : at_ < 0 ∨ n < 1 ∨ 8 < n ∨ (s.size : Int) < at_ + n) (hk : 0 < k) : num_Get.f k s at_ n = some (0, false) := by
  obtain ⟨k, rfl⟩ : ∃ m, k = m + 1 := ⟨k - 1, by omega⟩
  unfold num_Get.f
  by_cases hp : at_ < 0 ∨ n < 0 ∨ (s.size : Int) < at_ + n
  · rw [part_no hs hp]
    simp [num_Get.j0]
  · rw [part_yes hs (by omega) (by omega) (by omega)]
    simp only [Option.bind_some, if_true]
    by_cases h1 : n < 1
    · rw [if_pos h1]; simp [num_Get.j0]
    · rw [if_neg h1, show decide (n > 8) = true from decide_eq_true (by omega)]; simp [num_Get.j0]
end Go.Proofs.Ytihjecnkecgckaa.Pure
