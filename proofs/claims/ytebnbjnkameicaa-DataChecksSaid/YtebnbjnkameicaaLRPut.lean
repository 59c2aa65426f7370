/- What the printed nuncioref01.Put answers. -/
import Derived.Test.YtebnbjnkameicaaMinex18
import Derived.Test.YtebnbjnkameicaaLBase
namespace Go.Proofs.Ytebnbjnkameicaa.Pure
open Go.RowKit Go.Proofs.Ytebnbjnkameicaa.Mine Go.Proofs.YtebnbjnkameicaaW.PrintWords Go.Proofs.YtebnbjnkameicaaW.PrintLast Go.Proofs.YtebnbjnkameicaaW.PrintMore
set_option linter.unusedSimpArgs false

theorem str_append {a b : List Int} (ha : Bytes a) (hb : Bytes b) : strOfNums (a ++ b) = strOfNums a ++ strOfNums b := by
  apply bytesOf_inj
  rw [bytesOf_append, bytesOf_str ha, bytesOf_str hb, bytesOf_str (ha.append hb)]
theorem rput_l0 (s : ByteArray) (n : Int) (h0 : 0 ≤ n) (hn : n < 18446744073709551616) (hs : s.size ≤ 1000000000) (z : Nat) (hz : z ≤ 8) : ∀ (d k i : Nat), i + d = z → d < k →
    nuncioref01_Put.l0 k s (n / 2 ^ (8 * i)) (z : Int) (strOfNums (be n i)) (i : Int) = some (s ++ strOfNums (be n z))
  | 0, k, i, hd, hk => by
    obtain ⟨k, rfl⟩ : ∃ m, k = m + 1 := ⟨k - 1, by omega⟩
    have hl : (strOfNums (be n i)).size = i := by rw [strOfNums_size, be_length]
    obtain rfl : i = z := by omega
    simp only [nuncioref01_Put.l0]
    rw [if_neg (by omega), if_pos (by omega)]
  | d + 1, k, i, hd, hk => by
    obtain ⟨k, rfl⟩ : ∃ m, k = m + 1 := ⟨k - 1, by omega⟩
    have hl : (strOfNums (be n i)).size = i := by rw [strOfNums_size, be_length]
    have hq0 : 0 ≤ n / 2 ^ (8 * i) := Int.ediv_nonneg h0 (Int.pow_nonneg (by omega))
    have hq1 : n / 2 ^ (8 * i) ≤ n := Int.ediv_le_self _ h0
    have hstep : n / 2 ^ (8 * i) / 256 = n / 2 ^ (8 * (i + 1)) := by
      rw [Int.ediv_ediv_of_nonneg (Int.pow_nonneg (by omega)), show 8 * (i + 1) = 8 * i + 8 by omega, Int.pow_add]
      rfl
    have hq2 : 0 ≤ n / 2 ^ (8 * (i + 1)) := by rw [← hstep]; omega
    have hq3 : n / 2 ^ (8 * (i + 1)) < 18446744073709551616 := by rw [← hstep]; omega
    have hb : Bytes [n / 2 ^ (8 * i) % 256] := Bytes.cons (by omega) (by omega) Bytes.nil
    have hs1 : (strOfNums [n / 2 ^ (8 * i) % 256]).size = 1 := by rw [strOfNums_size]; rfl
    have e3 : strOfNums [n / 2 ^ (8 * i) % 256] ++ strOfNums (be n i) = strOfNums (be n (i + 1)) := by
      rw [← str_append hb (be_bytes n i)]
      rfl
    have ih := rput_l0 s n h0 hn hs z hz d k (i + 1) (by omega) (by omega)
    simp only [nuncioref01_Put.l0]
    rw [if_pos (by omega), if_pos (by omega), tmod_pos 256 hq0, Int.emod_emod_of_dvd _ (Int.dvd_refl 256), Option.bind_some, if_pos (by omega), e3, tdiv_pos 256 hq0, hstep, wu64_id hq2 hq3, w64 (x := (i : Int) + 1) (by omega) (by omega)]
    exact ih
theorem rput_f {k : Nat} {s : ByteArray} {n : Int} (z : Nat) (h0 : 0 ≤ n) (hn : n < 18446744073709551616) (hs : s.size ≤ 1000000000) (hz : z ≤ 8) (hk : 8 < k) : nuncioref01_Put.f k s n (z : Int) = some (s ++ strOfNums (be n z)) := by
  have := rput_l0 s n h0 hn hs z hz z k 0 (by omega) (by omega)
  rw [Nat.mul_zero, Int.pow_zero, Int.ediv_one] at this
  exact this
end Go.Proofs.Ytebnbjnkameicaa.Pure
