/- Words that all of the seat's laws use. -/
import Derived.Test.YthkdfnbhlinhiaaLBase0
import Derived.Test.YthkdfnbhlinhiaaLEv
import Derived.Test.YthkdfnbhlinhiaaWf
namespace Go.Proofs.Ythkdfnbhlinhiaa.Pure
open Go.RowKit Go.Proofs.Ythkdfnbhlinhiaa.Mine Go.Proofs.YthkdfnbhlinhiaaW.PrintWords Go.Proofs.YthkdfnbhlinhiaaW.PrintLast Go.Proofs.YthkdfnbhlinhiaaW.PrintMore
set_option linter.unusedSimpArgs false
set_option linter.unusedVariables false

theorem ev_ge {α : Type} {f : Nat → Option α} {r : α} (n : Nat) (h : ∀ k, n < k → f k = some r) : Ev f r := ⟨n + 1, fun k hk => h k (by omega)⟩
theorem rd51 {l : List S51} {i : Nat} (h : i < l.length) : rd_T51 l (i : Int) = l[i] := by simp [rd_T51, h]
theorem rd53 {l : List S53} {i : Nat} (h : i < l.length) : rd_T53 l (i : Int) = l[i] := by simp [rd_T53, h]
theorem rdq {l : List ByteArray} {i : Nat} (h : i < l.length) : rdOf ByteArray.empty l (i : Int) = l[i] := by unfold rdOf; rw [Int.toNat_natCast]; simp [h]
/-! ### flags -/
theorem and15 {f : Int} (h0 : 0 ≤ f) (h1 : f ≤ 65535) : Go.bits .and .u16 f 15 = f % 16 := by
  rw [u16_and _ _ h0 (by omega) (by omega) (by omega)]
  have h2 : f.toNat &&& (15 : Int).toNat = f.toNat % 16 := Nat.and_two_pow_sub_one_eq_mod f.toNat 4
  rw [h2]; omega
end Go.Proofs.Ythkdfnbhlinhiaa.Pure
