/- With more bits an integer takes no more bytes; a greater integer never fewer; of those that are below 2^N - 1 each takes one: for any bits from 1 to 7, any numbers. -/
import Derived.Test.YthgminjnednjgaaMinex9
import Derived.Test.YthgminjnednjgaaMinex3
import Derived.Test.YthgminjnednjgaaLPrefix
namespace Go.Proofs.Ythgminjnednjgaa.Pure
open Go.RowKit Go.Proofs.Ythgminjnednjgaa.Mine Go.Proofs.YthgminjnednjgaaW.PrintWords Go.Proofs.YthgminjnednjgaaW.PrintLast Go.Proofs.YthgminjnednjgaaW.PrintMore

theorem awake09o : nunciolaw09_awake.f 20 = some true := by decide +kernel
theorem encI_length (first F n : Int) : (encI first F n).length = if n < F then 1 else 1 + (vint 9 (n - F)).length := by
  unfold encI
  split
  · rfl
  · rw [List.length_cons]; omega
theorem PrefixOrder : nunciolaw09_PrefixOrder.Pure := by
  intro bits n m _ hn hm
  refine ⟨20, ?_⟩
  have hn := b_u64 hn
  have hm := b_u64 hm
  unfold nunciolaw09_PrefixOrder.f
  rw [awake09o]
  simp only [Option.bind_some, if_true]
  by_cases h1 : bits < 1
  · rw [if_pos h1]; simp [nunciolaw09_PrefixOrder.j0]
  rw [if_neg h1]
  by_cases h2 : bits > 7
  · rw [show decide (bits > 7) = true from decide_eq_true h2]; simp [nunciolaw09_PrefixOrder.j0]
  rw [show decide (bits > 7) = false from decide_eq_false h2]
  simp only [nunciolaw09_PrefixOrder.j0]
  rw [if_neg (by simp), w64 (x := bits + 1) (by omega) (by omega), pput_f bits (by simp) (by omega) (by omega) hn.1 hn.2 (by omega), pput_f (bits + 1) (by simp) (by omega) (by omega) hn.1 hn.2 (by omega), pput_f bits (by simp) (by omega) (by omega) hm.1 hm.2 (by omega)]
  simp only [Option.bind_some, List.nil_append]
  have hF : ful bits + 1 = 2 ^ bits.toNat := by unfold ful nb; rw [show (min (max bits 1) 8).toNat = bits.toNat by omega]; omega
  have hF2 : ful (bits + 1) = 2 * ful bits + 1 := by
    have e : ful (bits + 1) + 1 = 2 ^ (bits.toNat + 1) := by unfold ful nb; rw [show (min (max (bits + 1) 1) 8).toNat = bits.toNat + 1 by omega]; omega
    rw [Int.pow_succ] at e; omega
  have hr := ful_range bits
  have hsh : shl .u64 1 bits = ful bits + 1 := by
    unfold shl
    rw [show IntKind.u64.bits = 64 from rfl, Nat.min_eq_left (by omega), Int.one_mul, ← hF]
    exact wu64_id (by omega) (by omega)
  rw [hsh, wu64_id (n := ful bits + 1 - 1) (by omega) (by omega), encI_length, encI_length, encI_length, hF2]
  generalize ful bits = F at hr ⊢
  have hfin : (((((if n < F then 1 else 1 + (vint 9 (n - F)).length) : Nat) : Int) == 1) == decide (n < F + 1 - 1)) = true := by
    have hp := vint_pos 9 (n - F)
    by_cases hnF : n < F
    · rw [if_pos hnF, show decide (n < F + 1 - 1) = true from decide_eq_true (by omega)]; rfl
    · rw [if_neg hnF, show decide (n < F + 1 - 1) = false from decide_eq_false (by omega), beq_iff_eq, beq_eq_false_iff_ne]; omega
  have hmono : ∀ x y : Int, x ≤ y → (if x < F then 1 else 1 + (vint 9 (x - F)).length) ≤ (if y < F then 1 else 1 + (vint 9 (y - F)).length) := by
    intro x y hxy
    by_cases hx : x < F
    · rw [if_pos hx]; split <;> omega
    · rw [if_neg hx, if_neg (by omega)]
      have := vint_mono 9 (x - F) (y - F) (by omega) (by omega)
      omega
  have hless : (if n < 2 * F + 1 then 1 else 1 + (vint 9 (n - (2 * F + 1))).length) ≤ (if n < F then 1 else 1 + (vint 9 (n - F)).length) := by
    by_cases hx : n < 2 * F + 1
    · rw [if_pos hx]; split <;> omega
    · rw [if_neg hx, if_neg (by omega)]
      have := vint_mono 9 (n - (2 * F + 1)) (n - F) (by omega) (by omega)
      omega
  have h3 := hmono n m
  have h4 := hmono m n
  generalize (if n < 2 * F + 1 then 1 else 1 + (vint 9 (n - (2 * F + 1))).length) = A at hless ⊢
  generalize (if n < F then 1 else 1 + (vint 9 (n - F)).length) = B at hless hfin h3 h4 ⊢
  generalize (if m < F then 1 else 1 + (vint 9 (m - F)).length) = C at h3 h4 ⊢
  rw [if_neg (by omega)]
  by_cases c1 : n ≤ m
  · rw [if_pos c1, if_neg (by have := h3 c1; omega)]
    by_cases c2 : n ≥ m
    · rw [if_pos c2, if_neg (by have := h4 (by omega); omega), if_pos (by omega), hfin]
    · rw [if_neg c2, if_pos (by omega), hfin]
  · rw [if_neg c1, if_pos (by omega), if_neg (by have := h4 (by omega); omega), if_pos (by omega), hfin]
end Go.Proofs.Ythgminjnednjgaa.Pure
