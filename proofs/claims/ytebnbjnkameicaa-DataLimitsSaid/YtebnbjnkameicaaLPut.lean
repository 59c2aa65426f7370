/- What the printed num.Put answers. -/
import Derived.Test.YtebnbjnkameicaaMinex6
import Derived.Test.YtebnbjnkameicaaLBase
namespace Go.Proofs.Ytebnbjnkameicaa.Pure
open Go.RowKit Go.Proofs.Ytebnbjnkameicaa.Mine Go.Proofs.YtebnbjnkameicaaW.PrintWords Go.Proofs.YtebnbjnkameicaaW.PrintLast Go.Proofs.YtebnbjnkameicaaW.PrintMore

theorem put_l0 (n : Int) : ∀ (j k : Nat) (xs : List Int), j ≤ 8 → j < k → xs.length + j ≤ 140737488355328 → num_Put.l0 k n xs ((j : Int) - 1) = some (xs ++ be n j)
  | 0, k, xs, _, hk, _ => by
    obtain ⟨k, rfl⟩ : ∃ m, k = m + 1 := ⟨k - 1, by omega⟩
    simp only [num_Put.l0]; rw [if_neg (by omega)]; simp [be]
  | j + 1, k, xs, hj, hk, hl => by
    obtain ⟨k, rfl⟩ : ∃ m, k = m + 1 := ⟨k - 1, by omega⟩
    have e1 : (((j + 1 : Nat) : Int) - 1) = (j : Int) := by omega
    have e2 : wrap64 (8 * (j : Int)) = 8 * (j : Int) := w64 (by omega) (by omega)
    have e3 : wrap64 ((j : Int) - 1) = (j : Int) - 1 := w64 (by omega) (by omega)
    have e4 : shr .u64 n (8 * (j : Int)) = n / 2 ^ (8 * j) := by
      unfold shr
      rw [show (8 * (j : Int)).toNat = 8 * j by omega, show IntKind.u64.bits = 64 from rfl, Nat.min_eq_left (by omega)]
    rw [e1]
    simp only [num_Put.l0]
    rw [e2, e3, e4, if_pos (by omega), if_pos (by omega), if_pos (by omega), put_l0 n j k _ (by omega) (by omega) (by rw [List.length_append, List.length_singleton]; omega), be, List.append_assoc]
    rfl

/-- How many bytes a size stands for. -/
def szOf (s : Int) : Nat := (min (max s 0) 8).toNat
theorem szOf_le (s : Int) : szOf s ≤ 8 := by unfold szOf; omega
theorem put_f {k : Nat} {l : List Int} (n s : Int) (hl : l.length ≤ 140737488355000) (hk : 8 < k) : num_Put.f k l n s = some (l ++ be n (szOf s)) := by
  have e1 : wrap64 ((l.length : Int) + 8) = (l.length : Int) + 8 := w64 (by omega) (by omega)
  have e2 : (mn (mx s 0) 8) - 1 = ((szOf s : Nat) : Int) - 1 := by unfold mn mx szOf; split <;> split <;> omega
  unfold num_Put.f
  rw [e1, if_pos (by omega), if_pos (by omega), if_pos (by omega), if_pos (by omega), e2, Int.toNat_natCast, copied_zeros]
  exact put_l0 n _ k l (szOf_le s) (by have := szOf_le s; omega) (by have := szOf_le s; omega)
end Go.Proofs.Ytebnbjnkameicaa.Pure
