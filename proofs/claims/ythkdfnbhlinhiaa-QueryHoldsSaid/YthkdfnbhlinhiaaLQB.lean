/- Words that all of the seat's laws use. -/
import Derived.Test.YthkdfnbhlinhiaaLBase
import Derived.Test.YthkdfnbhlinhiaaLEv
import Derived.Test.YthkdfnbhlinhiaaWf
namespace Go.Proofs.Ythkdfnbhlinhiaa.Pure
open Go.RowKit Go.Proofs.Ythkdfnbhlinhiaa.Mine Go.Proofs.YthkdfnbhlinhiaaW.PrintWords Go.Proofs.YthkdfnbhlinhiaaW.PrintLast Go.Proofs.YthkdfnbhlinhiaaW.PrintMore
set_option linter.unusedSimpArgs false
set_option linter.unusedVariables false

theorem ev_ge {α : Type} {f : Nat → Option α} {r : α} (n : Nat) (h : ∀ k, n < k → f k = some r) : Ev f r := ⟨n + 1, fun k hk => h k (by omega)⟩
theorem rd51 {l : List S51} {i : Nat} (h : i < l.length) : rd_T51 l (i : Int) = l[i] := by simp [rd_T51, h]
theorem rd53 {l : List S53} {i : Nat} (h : i < l.length) : rd_T53 l (i : Int) = l[i] := by simp [rd_T53, h]
theorem rdq {l : List ByteArray} {i : Nat} (h : i < l.length) : rdOf ByteArray.empty l (i : Int) = l[i] := by unfold rdOf; rw [Int.toNat_natCast]; simp [h]
/-! ### flags -/
theorem n_and (n i : Nat) : n &&& 2 ^ i = (n / 2 ^ i % 2) * 2 ^ i := by
  apply Nat.eq_of_testBit_eq
  intro j
  rw [Nat.testBit_and, Nat.testBit_two_pow]
  have hb := Nat.testBit_eq_decide_div_mod_eq (x := n) (i := i)
  rcases Nat.mod_two_eq_zero_or_one (n / 2 ^ i) with h | h
  · rw [h] at hb ⊢
    by_cases e : i = j
    · subst e; rw [hb]; simp
    · rw [decide_eq_false e]; simp
  · rw [h] at hb ⊢
    rw [Nat.one_mul, Nat.testBit_two_pow]
    by_cases e : i = j
    · subst e; rw [hb]; simp
    · rw [decide_eq_false e]; simp
theorem and15 {f : Int} (h0 : 0 ≤ f) (h1 : f ≤ 65535) : Go.bits .and .u16 f 15 = f % 16 := by
  rw [u16_and _ _ h0 (by omega) (by omega) (by omega)]
  have h2 : f.toNat &&& (15 : Int).toNat = f.toNat % 16 := Nat.and_two_pow_sub_one_eq_mod f.toNat 4
  rw [h2]; omega
theorem andP {f : Int} (i : Nat) (hi : i < 16) (h0 : 0 ≤ f) (h1 : f ≤ 65535) : Go.bits .and .u16 f (2 ^ i) = (f / 2 ^ i % 2) * 2 ^ i := by
  have hp : (2 : Int) ^ i = ((2 ^ i : Nat) : Int) := by simp
  have hb : 2 ^ i < 65536 := show 2 ^ i < 2 ^ 16 from Nat.pow_lt_pow_right (by omega) hi
  have e : f = ((f.toNat : Nat) : Int) := by omega
  have key := u16_and f ((2 ^ i : Nat) : Int) h0 (by omega) (Int.natCast_nonneg _) (Int.ofNat_lt.2 hb)
  rw [hp, key, Int.toNat_natCast, n_and]
  generalize f.toNat = n at e
  subst e
  simp
theorem qr_iff {f : Int} (h0 : 0 ≤ f) (h1 : f ≤ 65535) : (Go.bits .and .u16 f 32768 = 0) ↔ f < 32768 := by
  have := andP 15 (by omega) h0 h1
  rw [show (2 : Int) ^ 15 = 32768 by decide] at this
  rw [this]; omega
theorem and_two {f : Int} (h0 : 0 ≤ f) (h1 : f ≤ 65535) : (Go.bits .and .u16 f 33280 = 32768) ↔ (32768 ≤ f ∧ f / 512 % 2 = 0) := by
  have e : f = ((f.toNat : Nat) : Int) := by omega
  rw [u16_and _ _ h0 (by omega) (by omega) (by omega), show (33280 : Int).toNat = 2 ^ 15 ||| 2 ^ 9 from by decide, Nat.and_or_distrib_left, n_and, n_and]
  generalize f.toNat = n at e
  subst e
  have h2 : n / 2 ^ 15 % 2 = 0 ∨ n / 2 ^ 15 % 2 = 1 := Nat.mod_two_eq_zero_or_one _
  have h3 : n / 2 ^ 9 % 2 = 0 ∨ n / 2 ^ 9 % 2 = 1 := Nat.mod_two_eq_zero_or_one _
  have e15 : (2 : Nat) ^ 15 = 32768 := by decide
  have e9 : (2 : Nat) ^ 9 = 512 := by decide
  rcases h2 with h2 | h2 <;> rcases h3 with h3 | h3 <;> rw [h2, h3] <;> rw [e15] at h2 <;> rw [e9] at h3 <;> rw [e15, e9]
  · have : ((0 * 32768 ||| 0 * 512 : Nat) : Int) = 0 := by decide
    rw [this]; omega
  · have : ((0 * 32768 ||| 1 * 512 : Nat) : Int) = 512 := by decide
    rw [this]; omega
  · have : ((1 * 32768 ||| 0 * 512 : Nat) : Int) = 32768 := by decide
    rw [this]; omega
  · have : ((1 * 32768 ||| 1 * 512 : Nat) : Int) = 33280 := by decide
    rw [this]; omega
end Go.Proofs.Ythkdfnbhlinhiaa.Pure
