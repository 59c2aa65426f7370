/- What the printed frame.Parse and nuncioref14.Parse answer. -/
import Derived.Test.YtlglgfcdhflecaaMinex4
import Derived.Test.YtlglgfcdhflecaaMinex8
import Derived.Test.YtlglgfcdhflecaaMinex7
import Derived.Test.YtlglgfcdhflecaaLRefGet
namespace Go.Proofs.Ytlglgfcdhflecaa.Pure
open Go.RowKit Go.Proofs.Ytlglgfcdhflecaa.Mine Go.Proofs.YtlglgfcdhflecaaW.PrintWords Go.Proofs.YtlglgfcdhflecaaW.PrintLast Go.Proofs.YtlglgfcdhflecaaW.PrintMore

theorem and31p {m : Int} (h0 : 0 ≤ m) (h1 : m < 4294967296) : Go.bits .and .u32 (m % 4294967296) 2147483647 = m % 2147483648 := by
  rw [Int.emod_eq_of_lt h0 h1, u32_and _ _ h0 h1 (by omega) (by omega)]
  have h2 : m.toNat &&& (2147483647 : Int).toNat = m.toNat % 2147483648 := Nat.and_two_pow_sub_one_eq_mod m.toNat 31
  rw [h2]
  omega
/-- A payload's length, a stream, of what bytes begin with. -/
def pn (l : List Int) : Int := beVal 0 (l.take 3)
def pst (l : List Int) : Int := beVal 0 ((l.drop 5).take 4) % 2147483648
/-- Where a frame is: (type, flags, stream, data, size, error). -/
def pf (s : ByteArray) : Int × Int × Int × ByteArray × Int × Int :=
  if (s.size : Int) < 9 then (0, 0, 0, (⟨#[]⟩ : ByteArray), 0, 2)
  else if pn (bytesOf s) > 16384 then (0, 0, 0, (⟨#[]⟩ : ByteArray), 0, 3)
  else if (s.size : Int) - 9 < pn (bytesOf s) then (0, 0, 0, (⟨#[]⟩ : ByteArray), 0, 2)
  else (bt s 3, bt s 4, pst (bytesOf s), s.extract 9 (9 + pn (bytesOf s)).toNat, 9 + pn (bytesOf s), 0)
theorem pn_range {l : List Int} (hb : Bytes l) (h : 3 ≤ l.length) : 0 ≤ pn l ∧ pn l < 16777216 := by
  have b3 := beVal_range (hb.take 3)
  rw [show (l.take 3).length = 3 by rw [List.length_take]; omega, show (256 : Int) ^ 3 = 16777216 by decide] at b3
  exact b3
theorem pfour_range {l : List Int} (hb : Bytes l) (h : 9 ≤ l.length) : 0 ≤ beVal 0 ((l.drop 5).take 4) ∧ beVal 0 ((l.drop 5).take 4) < 4294967296 := by
  have b4 := beVal_range ((hb.drop 5).take 4)
  rw [show ((l.drop 5).take 4).length = 4 by rw [List.length_take, List.length_drop]; omega, show (256 : Int) ^ 4 = 4294967296 by decide] at b4
  exact b4
theorem parse_f {k : Nat} {s : ByteArray} (hs : s.size ≤ 4000000000000) (hk : 20 < k) : frame_Parse.f k s = some (pf s) := by
  unfold frame_Parse.f pf
  by_cases h9 : (s.size : Int) < 9
  · rw [if_pos h9, part_no (by omega) (by omega), Option.bind_some, if_neg (by simp)]
  have hl := size_bytesOf s
  have hsz : (s.extract (0 : Int).toNat (0 + 9 : Int).toNat).size = 9 := by rw [ByteArray.size_extract]; show min 9 s.size - 0 = 9; omega
  have hx : bytesOf (s.extract (0 : Int).toNat (0 + 9 : Int).toNat) = (bytesOf s).take 9 := by
    rw [bytesOf_extract]; show ((bytesOf s).drop 0).take 9 = _; rw [List.drop_zero]
  have t3 : (((bytesOf s).take 9).drop 0).take 3 = (bytesOf s).take 3 := by rw [List.drop_zero, List.take_take]; rfl
  have t4 : (((bytesOf s).take 9).drop 5).take 4 = ((bytesOf s).drop 5).take 4 := by rw [List.drop_take, List.take_take]; rfl
  have g1 : num_Get.f k (s.extract (0 : Int).toNat (0 + 9 : Int).toNat) 0 3 = some (beVal 0 ((bytesOf s).take 3), true) := by
    have := get_yes (k := k) (s := s.extract (0 : Int).toNat (0 + 9 : Int).toNat) (at_ := 0) (n := 3) (by omega) (by omega) (by omega) (by omega) (by omega) (by omega)
    rw [hx] at this; rw [this]; show some (beVal 0 ((((bytesOf s).take 9).drop 0).take 3), true) = _; rw [t3]
  have g2 : num_Get.f k (s.extract (0 : Int).toNat (0 + 9 : Int).toNat) 5 4 = some (beVal 0 (((bytesOf s).drop 5).take 4), true) := by
    have := get_yes (k := k) (s := s.extract (0 : Int).toNat (0 + 9 : Int).toNat) (at_ := 5) (n := 4) (by omega) (by omega) (by omega) (by omega) (by omega) (by omega)
    rw [hx] at this; rw [this]; show some (beVal 0 ((((bytesOf s).take 9).drop 5).take 4), true) = _; rw [t4]
  have b3 := pn_range (bytesOf_bytes s) (by omega)
  have b4 := pfour_range (bytesOf_bytes s) (by omega)
  unfold pst
  unfold pn at b3 ⊢
  generalize hn : beVal 0 ((bytesOf s).take 3) = n at *
  generalize hm : beVal 0 (((bytesOf s).drop 5).take 4) = m at *
  have at3 : bt (s.extract (0 : Int).toNat (0 + 9 : Int).toNat) 3 = bt s 3 := by
    rw [bt_eq, bt_eq, hx]
    show rd ((bytesOf s).take 9) ((3 : Nat) : Int) = rd (bytesOf s) ((3 : Nat) : Int)
    rw [rd_nat (by rw [List.length_take]; omega), rd_nat (by omega), List.getElem_take]
  have at4 : bt (s.extract (0 : Int).toNat (0 + 9 : Int).toNat) 4 = bt s 4 := by
    rw [bt_eq, bt_eq, hx]
    show rd ((bytesOf s).take 9) ((4 : Nat) : Int) = rd (bytesOf s) ((4 : Nat) : Int)
    rw [rd_nat (by rw [List.length_take]; omega), rd_nat (by omega), List.getElem_take]
  rw [if_neg h9, part_yes (s := s) (at_ := 0) (n := 9) (by omega) (by omega) (by omega) (by omega), Option.bind_some, if_pos rfl, g1, Option.bind_some]
  by_cases h1 : n > 16384
  · rw [if_pos h1, if_pos h1]
  rw [if_neg h1, if_neg h1, g2, Option.bind_some, w64 (x := n) (by omega) (by omega)]
  by_cases h2 : (s.size : Int) - 9 < n
  · rw [if_pos h2, part_no (by omega) (by omega), Option.bind_some, if_neg (by simp)]
  rw [if_neg h2, part_yes (s := s) (at_ := 9) (n := n) (by omega) (by omega) (by omega) (by omega), Option.bind_some, if_pos rfl, if_pos (by rw [hsz]; decide), if_pos (by rw [hsz]; decide),
    w64 (x := 9 + n) (by omega) (by omega), at3, at4, and31p b4.1 b4.2]
  rfl
theorem rget4 {k : Nat} {d : ByteArray} {at_ : Int} (n : Int) (hs : d.size ≤ 4000000000000) (h0 : 0 ≤ at_) (h1 : 1 ≤ n) (h4 : n ≤ 4) (h2 : at_ + n ≤ d.size) (hk : 9 < k) : nuncioref14_get.f k d at_ n = some (beVal 0 (((bytesOf d).drop at_.toNat).take n.toNat)) := by
  have hl := size_bytesOf d
  have b4 := beVal_range (((bytesOf_bytes d).drop at_.toNat).take n.toNat)
  have hp : (256 : Int) ^ (((bytesOf d).drop at_.toNat).take n.toNat).length ≤ 256 ^ 4 := pow256_le (by rw [List.length_take]; omega)
  have h4 : (256 : Int) ^ 4 = 4294967296 := by decide
  unfold nuncioref14_get.f
  rw [rget_yes (by omega) h0 (by omega) (by omega) h2 hk, Option.bind_some]
  show some (wrap64 (beVal 0 (((bytesOf d).drop at_.toNat).take n.toNat))) = _
  rw [w64 (by omega) (by omega)]
theorem rparse_f {k : Nat} {s : ByteArray} (hs : s.size ≤ 4000000000000) (hk : 20 < k) : nuncioref14_Parse.f k s = some (pf s) := by
  unfold nuncioref14_Parse.f pf
  by_cases h9 : (s.size : Int) < 9
  · rw [if_pos h9, if_pos h9]
  have hl := size_bytesOf s
  have b3 := pn_range (bytesOf_bytes s) (by omega)
  have b4 := pfour_range (bytesOf_bytes s) (by omega)
  have r1 : nuncioref14_get.f k s 0 3 = some (pn (bytesOf s)) := by
    rw [rget4 3 hs (by omega) (by omega) (by omega) (by omega) (by omega)]
    show some (beVal 0 (((bytesOf s).drop 0).take 3)) = _
    rw [List.drop_zero]; rfl
  have r2 : nuncioref14_get.f k s 5 4 = some (beVal 0 (((bytesOf s).drop 5).take 4)) := rget4 4 hs (by omega) (by omega) (by omega) (by omega) (by omega)
  unfold pst
  generalize hm : beVal 0 (((bytesOf s).drop 5).take 4) = m at *
  generalize hn : pn (bytesOf s) = n at *
  rw [if_neg h9, if_neg h9, r1, Option.bind_some]
  by_cases h1 : n > 16384
  · rw [if_pos h1, if_pos h1]
  rw [if_neg h1, if_neg h1, w64 (x := (s.size : Int) - 9) (by omega) (by omega)]
  by_cases h2 : (s.size : Int) - 9 < n
  · rw [if_pos h2, if_pos h2]
  rw [if_neg h2, if_neg h2, if_pos (by omega), if_pos (by omega), r2, Option.bind_some, w64 (x := 9 + n) (by omega) (by omega), if_pos (by omega), if_pos (by omega), tmod_pos 2147483648 b4.1, Int.emod_eq_of_lt (a := m % 2147483648) (by omega) (by omega)]
end Go.Proofs.Ytlglgfcdhflecaa.Pure
