/- The walks and the plain laws that the rows come to: merged out of this repo's texts. -/
import Derived.Test.YtfkdocmhbmameaaDoorProg
import Derived.Below
import Derived.Deep.Draws
import Derived.Deep.AppendLies
import Derived.Maps.AppendAt
import Derived.OwnWalk
import Derived.Laws.BytesArg
import Derived.Laws.MakeOwn
import Derived.Laws.OwnMore
import Derived.Deep.OwnRows
import Derived.Tactics
import Derived.Lib.ConvBytes
import Derived.Laws.Slices
import Derived.WalkKit
import Derived.KernelRfl
import Derived.RowKit3
import Derived.Deep.LoopGhost
import Derived.Deep.QuietTactic
import Derived.BigQuiet
import Derived.WideLaws
import Derived.Deep.DeepCutAuto
import Derived.Deep.CutBlock
import Derived.Deep.RegionHeld3
import Derived.Laws.Rows
import Derived.Lib.AppendStr
import Derived.ArgAppend
import Derived.Laws.IdiomCopy
import Derived.RowKit
import Derived.OrdersHeld
import Derived.Laws.BitsLemmas
import Derived.Laws.StructEq
import Derived.Laws.CopyOwn
import Derived.SizedLaws
import Derived.ChangeSlices
import Derived.Deep.Slices
import Derived.Lib.SmallJoins
import Derived.Lib.OthersKept
import Derived.Lib.AppendZerosOnto
import Derived.WalkSpells
import Derived.Laws.BitsAllLaws
import Derived.Test.YtfkdocmhbmameaaDoorCA1
import Derived.Test.YtfkdocmhbmameaaDoorCA2
import Derived.Test.YtfkdocmhbmameaaDoorCA3
import Derived.Test.YtfkdocmhbmameaaDoorCA5
import Derived.Test.YtfkdocmhbmameaaDoorCA6
import Derived.Test.YtfkdocmhbmameaaDoorCA15
import Derived.Test.YtfkdocmhbmameaaDoorCA16
import Derived.Test.YtfkdocmhbmameaaDoorCA23
namespace Go.Proofs.YtfkdocmhbmameaaDoor.Pure
open Go.RowKit Go.Proofs.YtfkdocmhbmameaaDoor.Mine Go.Proofs.YtfkdocmhbmameaaDoorW.PrintWords Go.Proofs.YtfkdocmhbmameaaDoorW.PrintLast Go.Proofs.YtfkdocmhbmameaaDoorW.PrintMore
theorem rfull_l0 (bits : Int) : ∀ (d k i : Nat), i + d = nb bits → 1 ≤ i → d < k → nuncioref09_Full.l0 k bits (2 ^ i - 1) (i : Int) = some (ful bits)
  | 0, k, i, hd, h1, hk => by
    obtain ⟨k, rfl⟩ : ∃ m, k = m + 1 := ⟨k - 1, by omega⟩
    have hb := nb_range bits
    have hi : i = nb bits := by omega
    simp only [nuncioref09_Full.l0]
    by_cases c : (i : Int) < bits
    · rw [if_pos c, if_neg (by unfold nb at hi; omega), hi]; rfl
    · rw [if_neg c, hi]; rfl
  | d + 1, k, i, hd, h1, hk => by
    obtain ⟨k, rfl⟩ : ∃ m, k = m + 1 := ⟨k - 1, by omega⟩
    have hb := nb_range bits
    have hp : (2 : Int) ^ i ≤ 2 ^ 8 := by
      have h8 : i = 1 ∨ i = 2 ∨ i = 3 ∨ i = 4 ∨ i = 5 ∨ i = 6 ∨ i = 7 ∨ i = 8 := by omega
      rcases h8 with rfl | rfl | rfl | rfl | rfl | rfl | rfl | rfl <;> decide
    have hp0 : (0 : Int) < 2 ^ i := Int.pow_pos (by omega)
    simp only [nuncioref09_Full.l0]
    rw [if_pos (by unfold nb at hd; omega), if_pos (by omega), w64 (x := (i : Int) + 1) (by omega) (by omega), wu64_id (n := (2 ^ i - 1) * 2) (by omega) (by omega), wu64_id (n := (2 ^ i - 1) * 2 + 1) (by omega) (by omega),
      show ((2 : Int) ^ i - 1) * 2 + 1 = 2 ^ (i + 1) - 1 by rw [Int.pow_succ]; omega, show (i : Int) + 1 = ((i + 1 : Nat) : Int) by omega]
    exact rfull_l0 bits d k (i + 1) (by omega) (by omega) (by omega)
theorem rfull_f {k : Nat} (bits : Int) (hk : 8 ≤ k) : nuncioref09_Full.f k bits = some (ful bits) := by
  have hb := nb_range bits
  unfold nuncioref09_Full.f
  have := rfull_l0 bits (nb bits - 1) k 1 (by omega) (by omega) (by omega)
  simpa using this
theorem rget9_l0 (s : ByteArray) (a : Nat) (ha : a < s.size) (hs : s.size ≤ 4611686018427387904) : ∀ (rem i k : Nat) (n : Int), rem + i = 5 → rem < k → 0 ≤ n → n ≤ 4294967295 →
    nuncioref09_Get.l0 k s (a : Int) n (128 ^ i) ((i : Int) + 1) = some (getT rem i n ((bytesOf s).drop (a + 1 + i)) (a : Int))
  | 0, i, k, n, hr, hk, h0, h1 => by
    obtain ⟨k, rfl⟩ : ∃ m, k = m + 1 := ⟨k - 1, by omega⟩
    simp only [nuncioref09_Get.l0]
    rw [if_neg (by omega), getT]
  | rem + 1, i, k, n, hr, hk, h0, h1 => by
    obtain ⟨k, rfl⟩ : ∃ m, k = m + 1 := ⟨k - 1, by omega⟩
    have hsz := size_bytesOf s
    simp only [nuncioref09_Get.l0]
    rw [if_pos (by omega), w64 (x := (s.size : Int) - (a : Int)) (by omega) (by omega), w64 (x := (a : Int) + ((i : Int) + 1)) (by omega) (by omega), show (a : Int) + ((i : Int) + 1) = ((a + 1 + i : Nat) : Int) by omega]
    by_cases hb : (s.size : Int) - (a : Int) ≤ (i : Int) + 1
    · rw [if_pos hb, List.drop_eq_nil_of_le (by omega), getT]
    · have hi : a + 1 + i < (bytesOf s).length := by omega
      have hc := bytesOf_bytes s _ (List.getElem_mem hi)
      rw [if_neg hb, if_pos (by omega), if_pos (by omega), bt_eq, rd_nat hi, List.drop_eq_getElem_cons hi]
      generalize (bytesOf s)[a + 1 + i] = c at hc ⊢
      have h4 : (128 : Int) ^ i ≤ 128 ^ 4 := p128_le (by omega)
      have h44 : (128 : Int) ^ 4 = 268435456 := by decide
      have hp := p128_pos i
      have hcp : 0 ≤ c % 128 * 128 ^ i := Int.mul_nonneg (by omega) (by omega)
      have hcp2 : c % 128 * 128 ^ i ≤ 127 * 128 ^ i := Int.mul_le_mul_of_nonneg_right (by omega) (by omega)
      rw [wu64_id (n := c) hc.1 (by omega), tmod_pos _ hc.1, wu64_id (n := c % 128 * 128 ^ i) hcp (by omega), wu64_id (n := n + c % 128 * 128 ^ i) (by omega) (by omega), getT]
      by_cases ho : n + c % 128 * 128 ^ i > 4294967295
      · rw [if_pos ho, if_pos ho]
      · rw [if_neg ho, if_neg ho]
        by_cases hl : c < 128
        · rw [if_pos hl, if_pos hl, w64 (x := ((a + 1 + i : Nat) : Int) + 1) (by omega) (by omega), show ((a + 1 + i : Nat) : Int) + 1 = (a : Int) + 2 + (i : Int) by omega]
        · rw [if_neg hl, if_neg hl, w64 (x := (i : Int) + 1 + 1) (by omega) (by omega), wu64_id (n := 128 ^ i * 128) (by omega) (by omega), ← Int.pow_succ, show (i : Int) + 1 + 1 = ((i + 1 : Nat) : Int) + 1 by omega, rget9_l0 s a ha hs rem (i + 1) k _ (by omega) (by omega) (by omega) (by omega)]
          rfl
theorem rget9_f {k : Nat} {s : ByteArray} {a : Int} (bits : Int) (hs : s.size ≤ 4611686018427387904) (hk : 9 ≤ k) : nuncioref09_Get.f k s a bits = some (getI (ful bits) (bytesOf s) a) := by
  obtain ⟨k, rfl⟩ : ∃ m, k = m + 1 := ⟨k - 1, by omega⟩
  have hsz := size_bytesOf s
  have hr := ful_range bits
  unfold nuncioref09_Get.f getI
  by_cases h0 : a < 0
  · rw [if_pos h0, if_pos (.inl h0)]
    simp [nuncioref09_Get.j0]
  by_cases h1 : a ≥ (s.size : Int)
  · rw [if_neg h0, show decide (a ≥ (s.size : Int)) = true from decide_eq_true h1, if_pos (.inr (by omega))]
    simp [nuncioref09_Get.j0]
  rw [if_neg h0, show decide (a ≥ (s.size : Int)) = false from decide_eq_false h1, if_neg (by omega)]
  obtain ⟨a, rfl⟩ := Int.eq_ofNat_of_zero_le (show 0 ≤ a by omega)
  have hi : a < (bytesOf s).length := by omega
  have hc := bytesOf_bytes s _ (List.getElem_mem hi)
  have hm1 := Int.emod_nonneg (bytesOf s)[a] (show ful bits + 1 ≠ 0 by omega)
  have hm2 := Int.emod_lt_of_pos (bytesOf s)[a] (show 0 < ful bits + 1 by omega)
  simp only [nuncioref09_Get.j0]
  rw [if_neg (by simp), rfull_f bits (by omega)]
  simp only [Option.bind_some]
  rw [if_pos (by omega), if_pos (by omega), bt_eq, rd_nat hi, wu64_id (n := (bytesOf s)[a]) hc.1 (by omega), wu64_id (n := ful bits + 1) (by omega) (by omega), if_neg (by omega), tmod_pos _ hc.1]
  split
  · rw [w64 (by omega) (by omega)]
  · have := rget9_l0 s a (by omega) hs 5 0 k ((bytesOf s)[a] % (ful bits + 1)) (by omega) (by omega) (by omega) (by omega)
    rw [Int.toNat_natCast]
    exact this
end Go.Proofs.YtfkdocmhbmameaaDoor.Pure
