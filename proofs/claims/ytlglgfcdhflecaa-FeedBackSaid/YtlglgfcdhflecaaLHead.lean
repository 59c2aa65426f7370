/- A frame's bytes, parsed. -/
import Derived.Test.YtlglgfcdhflecaaLParse
namespace Go.Proofs.Ytlglgfcdhflecaa.Pure
open Go.RowKit Go.Proofs.Ytlglgfcdhflecaa.Mine Go.Proofs.YtlglgfcdhflecaaW.PrintWords Go.Proofs.YtlglgfcdhflecaaW.PrintLast Go.Proofs.YtlglgfcdhflecaaW.PrintMore
set_option linter.unusedSimpArgs false

/-- The bytes ahead of a payload. -/
def hd9 (n a b c : Int) : List Int := be n 3 ++ [a, b] ++ be c 4
theorem be3 (n : Int) : be n 3 = [n / 65536 % 256, n / 256 % 256, n % 256] := by
  simp only [be]
  rw [show (2 : Int) ^ (8 * 2) = 65536 by decide, show (2 : Int) ^ (8 * 1) = 256 by decide, show (2 : Int) ^ (8 * 0) = 1 by decide, Int.ediv_one]
theorem be4 (n : Int) : be n 4 = [n / 16777216 % 256, n / 65536 % 256, n / 256 % 256, n % 256] := by
  simp only [be]
  rw [show (2 : Int) ^ (8 * 3) = 16777216 by decide, show (2 : Int) ^ (8 * 2) = 65536 by decide, show (2 : Int) ^ (8 * 1) = 256 by decide, show (2 : Int) ^ (8 * 0) = 1 by decide, Int.ediv_one]
theorem hd9_eq (n a b c : Int) : hd9 n a b c = [n / 65536 % 256, n / 256 % 256, n % 256, a, b, c / 16777216 % 256, c / 65536 % 256, c / 256 % 256, c % 256] := by
  rw [hd9, be3, be4]; rfl
theorem hd9_bytes (n c : Int) {a b : Int} (ha : 0 ≤ a ∧ a ≤ 255) (hb : 0 ≤ b ∧ b ≤ 255) : Bytes (hd9 n a b c) :=
  ((be_bytes n 3).append (Bytes.cons ha.1 (by omega) (Bytes.cons hb.1 (by omega) Bytes.nil))).append (be_bytes c 4)
theorem nine {l : List Int} (h : 9 ≤ l.length) : ∃ x0 x1 x2 x3 x4 x5 x6 x7 x8 r, l = x0 :: x1 :: x2 :: x3 :: x4 :: x5 :: x6 :: x7 :: x8 :: r := by
  match l, h with
  | x0 :: x1 :: x2 :: x3 :: x4 :: x5 :: x6 :: x7 :: x8 :: r, _ => exact ⟨x0, x1, x2, x3, x4, x5, x6, x7, x8, r, rfl⟩
theorem pn_nine (x0 x1 x2 x3 x4 x5 x6 x7 x8 : Int) (r : List Int) : pn (x0 :: x1 :: x2 :: x3 :: x4 :: x5 :: x6 :: x7 :: x8 :: r) = (x0 * 256 + x1) * 256 + x2 := by
  simp [pn, beVal]
theorem pst_nine (x0 x1 x2 x3 x4 x5 x6 x7 x8 : Int) (r : List Int) : pst (x0 :: x1 :: x2 :: x3 :: x4 :: x5 :: x6 :: x7 :: x8 :: r) = (((x5 * 256 + x6) * 256 + x7) * 256 + x8) % 2147483648 := by
  simp [pst, beVal]
theorem bt3_nine {s : ByteArray} {x0 x1 x2 x3 x4 x5 x6 x7 x8 : Int} {r : List Int} (h : bytesOf s = x0 :: x1 :: x2 :: x3 :: x4 :: x5 :: x6 :: x7 :: x8 :: r) : bt s 3 = x3 ∧ bt s 4 = x4 ∧ bt s 5 = x5 := by
  rw [bt_eq, bt_eq, bt_eq, h]; exact ⟨rfl, rfl, rfl⟩
/-- What is parsed of what was printed. -/
theorem pf_pt {a b c : Int} {d more : ByteArray} (ha : 0 ≤ a ∧ a ≤ 255) (hb : 0 ≤ b ∧ b ≤ 255) (hc : 0 ≤ c ∧ c ≤ 2147483647) (hd : d.size ≤ 16384) :
    pf (strOfNums (hd9 (d.size : Int) a b c ++ bytesOf d) ++ more) = (a, b, c, d, 9 + (d.size : Int), 0) := by
  have hbs : bytesOf (strOfNums (hd9 (d.size : Int) a b c ++ bytesOf d) ++ more) = hd9 (d.size : Int) a b c ++ bytesOf d ++ bytesOf more := by
    rw [bytesOf_append, bytesOf_str ((hd9_bytes _ c ha hb).append (bytesOf_bytes d))]
  have hsz := size_bytesOf (strOfNums (hd9 (d.size : Int) a b c ++ bytesOf d) ++ more)
  have hds := size_bytesOf d
  generalize strOfNums (hd9 (d.size : Int) a b c ++ bytesOf d) ++ more = s at *
  rw [hd9_eq] at hbs
  simp only [List.cons_append, List.nil_append] at hbs
  rw [hbs] at hsz
  simp only [List.length_cons, List.length_append] at hsz
  obtain ⟨e3, e4, _⟩ := bt3_nine hbs
  unfold pf
  rw [hbs, pn_nine, pst_nine, e3, e4]
  have hn : ((d.size : Int) / 65536 % 256 * 256 + (d.size : Int) / 256 % 256) * 256 + (d.size : Int) % 256 = (d.size : Int) := by omega
  have hcc : (((c / 16777216 % 256 * 256 + c / 65536 % 256) * 256 + c / 256 % 256) * 256 + c % 256) % 2147483648 = c := by omega
  rw [hn, hcc, if_neg (by omega), if_neg (by omega), if_neg (by omega)]
  have he : s.extract 9 (9 + (d.size : Int)).toNat = d := by
    apply bytesOf_inj
    rw [bytesOf_extract, hbs]
    simp only [List.drop_succ_cons, List.drop_zero]
    rw [show (9 + (d.size : Int)).toNat - 9 = (bytesOf d).length by omega, List.take_left]
  rw [he]
end Go.Proofs.Ytlglgfcdhflecaa.Pure
