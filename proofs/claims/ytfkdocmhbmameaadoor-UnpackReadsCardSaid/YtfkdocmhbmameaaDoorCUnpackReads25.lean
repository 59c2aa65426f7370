/- The walks and the plain laws that the row comes to: merged out of this repo's texts. -/
import Derived.Test.YtfkdocmhbmameaaDoorProg
import Derived.Below
import Derived.Deep.Draws
import Derived.Deep.AppendLies
import Derived.Maps.AppendAt
import Derived.OwnWalk
import Derived.Laws.BytesArg
import Derived.Laws.MakeOwn
import Derived.Laws.OwnMore
import Derived.Deep.OwnRows
import Derived.Tactics
import Derived.Lib.ConvBytes
import Derived.Laws.Slices
import Derived.WalkKit
import Derived.KernelRfl
import Derived.RowKit3
import Derived.Deep.LoopGhost
import Derived.Deep.QuietTactic
import Derived.BigQuiet
import Derived.WideLaws
import Derived.Deep.DeepCutAuto
import Derived.Deep.CutBlock
import Derived.Deep.RegionHeld3
import Derived.Laws.Rows
import Derived.Lib.AppendStr
import Derived.ArgAppend
import Derived.Laws.IdiomCopy
import Derived.RowKit
import Derived.OrdersHeld
import Derived.Laws.BitsLemmas
import Derived.Laws.StructEq
import Derived.Laws.CopyOwn
import Derived.SizedLaws
import Derived.ChangeSlices
import Derived.Deep.Slices
import Derived.Lib.SmallJoins
import Derived.Lib.OthersKept
import Derived.Lib.AppendZerosOnto
import Derived.WalkSpells
import Derived.Shelf.Utf8.RuneCount
import Derived.Shelf.Strings.Search1
import Derived.Shelf.Strings.Search2
import Derived.Shelf.Strings.Search3
import Derived.Shelf.Strings.Cut
import Derived.Shelf.Strings.Count
import Derived.Shelf.LaysM
import Derived.Shelf.Strings.Shaped
import Derived.Shelf.Strings.Split
import Derived.Shelf.Strings.SplitShaped
import Derived.Shelf.Unicode.Decode
import Derived.Shelf.Strings.RuneCount
import Derived.Shelf.Strings.Explode
import Derived.Shelf.Unicode.DecodeSlow
import Derived.Shelf.Unicode.DecodeAny
import Derived.Recover
import Derived.WalkLawsBesides
import Derived.Laws.BitsAllLaws
import Derived.Test.YtfkdocmhbmameaaDoorCUnpackReads1
import Derived.Test.YtfkdocmhbmameaaDoorCUnpackReads2
import Derived.Test.YtfkdocmhbmameaaDoorCUnpackReads3
import Derived.Test.YtfkdocmhbmameaaDoorCUnpackReads4
import Derived.Test.YtfkdocmhbmameaaDoorCUnpackReads5
import Derived.Test.YtfkdocmhbmameaaDoorCUnpackReads6
import Derived.Test.YtfkdocmhbmameaaDoorCUnpackReads7
import Derived.Test.YtfkdocmhbmameaaDoorCUnpackReads8
import Derived.Test.YtfkdocmhbmameaaDoorCUnpackReads9
import Derived.Test.YtfkdocmhbmameaaDoorCUnpackReads10
import Derived.Test.YtfkdocmhbmameaaDoorCUnpackReads11
import Derived.Test.YtfkdocmhbmameaaDoorCUnpackReads12
import Derived.Test.YtfkdocmhbmameaaDoorCUnpackReads13
import Derived.Test.YtfkdocmhbmameaaDoorCUnpackReads14
import Derived.Test.YtfkdocmhbmameaaDoorCUnpackReads15
import Derived.Test.YtfkdocmhbmameaaDoorCUnpackReads16
import Derived.Test.YtfkdocmhbmameaaDoorCUnpackReads17
import Derived.Test.YtfkdocmhbmameaaDoorCUnpackReads18
import Derived.Test.YtfkdocmhbmameaaDoorCUnpackReads22
import Derived.Test.YtfkdocmhbmameaaDoorCUnpackReads24
namespace Go.Proofs.YtfkdocmhbmameaaDoor.Pure
open Go.RowKit Go.Proofs.YtfkdocmhbmameaaDoor.Mine Go.Proofs.YtfkdocmhbmameaaDoorW.PrintWords Go.Proofs.YtfkdocmhbmameaaDoorW.PrintLast Go.Proofs.YtfkdocmhbmameaaDoorW.PrintMore
set_option linter.unusedVariables false
theorem bN_get : ∀ (n v i : Nat), i < n → (bN n v)[i]? = some (v / 2 ^ (n - 1 - i) % 2 == 1)
  | 0, _, _, h => by omega
  | n + 1, v, 0, _ => by rw [bN]; simp
  | n + 1, v, i + 1, h => by
    rw [bN, List.getElem?_cons_succ, bN_get n v i (by omega), show n + 1 - 1 - (i + 1) = n - 1 - i by omega]
theorem ub_get : ∀ (l : List Int) (i : Nat), i < 8 * l.length → (ub l)[i]? = some ((l.getD (i / 8) 0).toNat / 2 ^ (7 - i % 8) % 2 == 1)
  | [], i, h => by simp at h
  | x :: l, i, h => by
    rw [ub_cons]
    by_cases h8 : i < 8
    · rw [List.getElem?_append_left (by rw [bN_length]; exact h8), bN_get 8 _ i h8, show i / 8 = 0 by omega, show i % 8 = i by omega]
      rfl
    · rw [List.getElem?_append_right (by rw [bN_length]; omega), bN_length, ub_get l (i - 8) (by rw [List.length_cons] at h; omega), show i / 8 = (i - 8) / 8 + 1 by omega, show (i - 8) % 8 = i % 8 by omega]
      rfl
theorem ub_drop {l : List Int} {i : Nat} (h : i < 8 * l.length) : (ub l).drop i = ((l.getD (i / 8) 0).toNat / 2 ^ (7 - i % 8) % 2 == 1) :: (ub l).drop (i + 1) := by
  have hl : i < (ub l).length := by rw [ub_length]; exact h
  have hg := ub_get l i h
  rw [List.getElem?_eq_getElem hl] at hg
  rw [List.drop_eq_getElem_cons hl, Option.some.inj hg]
theorem and7 {i : Nat} (h : i < 4611686018427387904) : Go.bits .and .i64 (i : Int) 7 = ((i % 8 : Nat) : Int) := by
  show IntKind.i64.wrap ((BitVec.ofInt 64 (i : Int) &&& BitVec.ofInt 64 (7 : Int)).toNat : Int) = _
  have e7 := ofInt_u64 7 (by omega)
  rw [show ((7 : Nat) : Int) = 7 from rfl] at e7
  rw [BitVec.toNat_and, ofInt_u64 i (by omega), e7, nat_mask3, i64_w, w64 (by omega) (by omega)]
theorem bit_toNat (y : Nat) : (y % 2 == 1).toNat = y % 2 := by
  have : y % 2 = 0 ∨ y % 2 = 1 := by omega
  rcases this with h | h <;> rw [h] <;> rfl
theorem the_bit {s : ByteArray} {i : Nat} (h : i < 8 * s.size) (hs : s.size ≤ 1000000) :
    Go.bits .and .u32 ((shr .u8 (bt s ((i : Int) / 8)) (wrap64 (7 - (Go.bits .and .i64 (i : Int) 7)))) % 4294967296) 1 = ((((bytesOf s).getD (i / 8) 0).toNat / 2 ^ (7 - i % 8) % 2 == 1).toNat : Int) := by
  have hlen : (bytesOf s).length = s.size := bytesOf_length s
  have hi : i / 8 < (bytesOf s).length := by omega
  have hb := bytesOf_bytes s _ (List.getElem_mem hi)
  obtain ⟨x, hx⟩ : ∃ x : Nat, (bytesOf s)[i / 8] = (x : Int) := ⟨((bytesOf s)[i / 8]).toNat, by omega⟩
  have e1 : (bytesOf s).getD (i / 8) 0 = (x : Int) := by rw [List.getD_eq_getElem?_getD, List.getElem?_eq_getElem hi, Option.getD_some, hx]
  have e2 : bt s ((i : Int) / 8) = (x : Int) := by rw [bt_eq, show (i : Int) / 8 = ((i / 8 : Nat) : Int) by omega, rd_nat hi, hx]
  rw [e1, e2, and7 (by omega), w64 (by omega) (by omega), show (7 : Int) - ((i % 8 : Nat) : Int) = ((7 - i % 8 : Nat) : Int) by omega, shr64 (by simp [IntKind.bits]; omega), Int.toNat_natCast, bit_toNat]
  have hle : x / 2 ^ (7 - i % 8) ≤ x := Nat.div_le_self _ _
  generalize x / 2 ^ (7 - i % 8) = y at *
  rw [show ((y : Nat) : Int) % 4294967296 = (y : Int) by omega, u32_and _ _ (by omega) (by omega) (by omega) (by omega), Int.toNat_natCast, show (1 : Int).toNat = 1 from rfl, nat_mask1]
theorem or_bit {code : Nat} (b : Bool) (h : code < 536870912) : Go.bits .or .u32 (((code : Int) * 2) % 4294967296) ((b.toNat : Nat) : Int) = ((2 * code + b.toNat : Nat) : Int) := by
  have hb : b.toNat < 2 := by cases b <;> decide
  rw [show ((code : Int) * 2) % 4294967296 = ((2 * code : Nat) : Int) by omega, u32_or _ _ (by omega) (by omega) (by omega) (by omega), Int.toNat_natCast, Int.toNat_natCast, nat_join 1 _ _ (by omega) (by omega)]
def res : Option (List Int) → ByteArray × Int
  | none => (⟨#[]⟩, 91)
  | some y => (strOfNums y, 0)
theorem hcFirst_le : ∀ n, n < 31 → hcFirst n ≤ 1073741824 := by decide +kernel
theorem dec_l0 {s : ByteArray} (hs : s.size ≤ 1000000) : ∀ (bs : List Bool) (i code n : Nat) (ones : Bool) (out : List Int), bs = (ub (bytesOf s)).drop i → i + bs.length = 8 * s.size → Pend code n → out.length ≤ i →
    Ev (fun k => huff_Decode.l0 k s out (code : Int) (n : Int) ones ((8 * s.size : Nat) : Int) (i : Int)) (res (dec bs code n ones out))
  | [], i, code, n, ones, out, hbs, hi, hP, ho => by
    refine Ev.step (f := fun _ => some (res (dec [] code n ones out))) (fun k => ?_) (Ev.now _)
    have hi2 : i = 8 * s.size := by simpa using hi
    simp only [huff_Decode.l0]
    rw [if_neg (by omega), dec]
    by_cases h7 : (n : Int) > 7
    · rw [if_pos h7, if_pos (.inl (by omega))]; rfl
    · rw [if_neg h7]
      cases ones
      · rw [if_neg (by simp), if_pos (.inr rfl)]; rfl
      · rw [if_pos rfl, if_neg (by intro h_; rcases h_ with h_ | h_; omega; cases h_)]; rfl
  | b :: bs, i, code, n, ones, out, hbs, hi, hP, ho => by
    have hlen : (bytesOf s).length = s.size := bytesOf_length s
    rw [List.length_cons] at hi
    have hd := ub_drop (l := bytesOf s) (i := i) (by omega)
    rw [hd] at hbs
    obtain ⟨hb, hbs'⟩ := List.cons.inj hbs
    have hbit := the_bit (s := s) (i := i) (by omega) hs
    rw [← hb] at hbit
    have hcode : code < 536870912 := by
      have h1 := hP.1
      have h2 : 2 ^ n ≤ 2 ^ 29 := pow_le_pow hP.2.1
      omega
    have hor := or_bit b hcode
    have hn29 := hP.2.1
    have hlt := hP.lt b
    have hlt2 : 2 ^ (n + 1) ≤ 2 ^ 30 := pow_le_pow (by omega)
    have hbn : b.toNat < 2 := by cases b <;> decide
    refine Ev.step (f := fun k => huff_Decode.j1 k s out ((2 * code + b.toNat : Nat) : Int) ((n + 1 : Nat) : Int) (ones && b) ((8 * s.size : Nat) : Int) (i : Int)) (fun k => ?_) ?_
    · have hone : (((b.toNat : Nat) : Int) == 1) = b := by cases b <;> rfl
      simp only [huff_Decode.l0]
      rw [if_pos (by omega), if_pos (by omega), if_pos (by omega), if_pos (by rw [and7 (by omega), w64 (by omega) (by omega)]; omega), hbit, hor, w64 (by omega) (by omega), hone]
      cases ones
      · rw [if_neg (by simp), Bool.false_and]; rfl
      · rw [if_pos rfl, Bool.true_and]; rfl
    rw [dec]
    have hl0 : ∀ (k : Nat), wrap64 ((i : Int) + 1) = ((i + 1 : Nat) : Int) := fun _ => by rw [w64 (by omega) (by omega)]; rfl
    have e1 : hb1 ((n + 1 : Nat) : Int) = ((hcFirst (n + 1) : Nat) : Int) := by unfold hb1; rw [Int.toNat_natCast]
    have e2 : hb2 ((n + 1 : Nat) : Int) = ((hcCount (n + 1) : Nat) : Int) := by unfold hb2; rw [Int.toNat_natCast]
    have e3 : hb3 ((n + 1 : Nat) : Int) = ((hcBegin (n + 1) : Nat) : Int) := by unfold hb3; rw [Int.toNat_natCast]
    have hc32 := hcCount_le (n + 1) (by omega)
    have hf30 := hcFirst_le (n + 1) (by omega)
    cases hk : look (n + 1) (2 * code + b.toNat) with
    | none =>
      have ih := dec_l0 hs bs (i + 1) (2 * code + b.toNat) (n + 1) (ones && b) out hbs' (by omega) (hP.step b hk) (by omega)
      have hj2 : Ev (fun k => huff_Decode.j2 k s out ((2 * code + b.toNat : Nat) : Int) ((n + 1 : Nat) : Int) (ones && b) ((8 * s.size : Nat) : Int) (i : Int) true) (res (dec bs (2 * code + b.toNat) (n + 1) (ones && b) out)) := by
        refine Ev.step (fun k => ?_) ih
        simp only [huff_Decode.j2]
        rw [if_pos trivial, hl0 k]
      refine Ev.step (fun k => ?_) hj2
      simp only [huff_Decode.j1]
      by_cases h5 : ((n + 1 : Nat) : Int) < 5
      · rw [if_pos h5]
      · rw [if_neg h5, if_pos (by omega), if_pos (by omega), e1, e2]
        have hf := hP.first b (by omega)
        rw [if_neg (by omega)]
        have hcnt : hcCount (n + 1) ≤ 2 * code + b.toNat - hcFirst (n + 1) := by
          refine Nat.le_of_not_lt fun hh => ?_
          unfold look at hk
          rw [if_pos ⟨by omega, hf, hh⟩] at hk
          cases hk
        rw [show decide ((((2 * code + b.toNat : Nat) : Int) - ((hcFirst (n + 1) : Nat) : Int)) % 4294967296 ≥ ((hcCount (n + 1) : Nat) : Int) % 4294967296) = true from decide_eq_true (by omega)]
    | some sg =>
      obtain ⟨h5, hf, hcnt, hsg, hidx, hs257, hL, hC⟩ := look_some (by omega) hk
      simp only
      have e4 : hb4 ((hcBegin (n + 1) + (2 * code + b.toNat - hcFirst (n + 1)) : Nat) : Int) = ((sg : Nat) : Int) := by unfold hb4; rw [Int.toNat_natCast, ← hsg]
      have e5 : wrap64 (hb3 ((n + 1 : Nat) : Int) + (((2 * code + b.toNat : Nat) : Int) - hb1 ((n + 1 : Nat) : Int)) % 4294967296) = ((hcBegin (n + 1) + (2 * code + b.toNat - hcFirst (n + 1)) : Nat) : Int) := by
        rw [e1, e3, w64 (by omega) (by omega)]
        omega
      have hj2 : Ev (fun k => huff_Decode.j2 k s out ((2 * code + b.toNat : Nat) : Int) ((n + 1 : Nat) : Int) (ones && b) ((8 * s.size : Nat) : Int) (i : Int) false) (res (if sg = 256 then none else dec bs 0 0 true (out ++ [(sg : Int)]))) := by
        by_cases h256 : sg = 256
        · rw [if_pos h256]
          refine Ev.step (f := fun _ => some (res none)) (fun k => ?_) (Ev.now _)
          simp only [huff_Decode.j2]
          rw [if_neg (by simp), if_pos (by omega), if_pos (by omega), e5, if_pos (by omega), if_pos (by omega), e4, if_pos (by omega)]
          rfl
        · rw [if_neg h256]
          have ih := dec_l0 hs bs (i + 1) 0 0 true (out ++ [(sg : Int)]) hbs' (by omega) Pend.zero (by simp; omega)
          refine Ev.step (fun k => ?_) ih
          simp only [huff_Decode.j2]
          rw [if_neg (by simp), if_pos (by omega), if_pos (by omega), e5, if_pos (by omega), if_pos (by omega), e4, if_neg (by omega), if_pos (by omega), hl0 k, show ((sg : Nat) : Int) % 256 = ((sg : Nat) : Int) by omega]
          rfl
      refine Ev.step (fun k => ?_) hj2
      simp only [huff_Decode.j1]
      rw [if_neg (by omega), if_pos (by omega), if_pos (by omega), e1, e2, if_neg (by omega)]
      rw [show decide ((((2 * code + b.toNat : Nat) : Int) - ((hcFirst (n + 1) : Nat) : Int)) % 4294967296 ≥ ((hcCount (n + 1) : Nat) : Int) % 4294967296) = false from decide_eq_false (by omega)]
theorem decode_f (s : ByteArray) (hs : s.size ≤ 1000000) : Ev (fun k => huff_Decode.f k s) (res (dec (ub (bytesOf s)) 0 0 true [])) := by
  have hlen : (bytesOf s).length = s.size := bytesOf_length s
  have h := dec_l0 hs (ub (bytesOf s)) 0 0 0 true [] (by rw [List.drop_zero]) (by rw [ub_length]; omega) Pend.zero (by simp)
  refine Ev.congr (fun k => ?_) h
  unfold huff_Decode.f huff_made.f
  rw [Option.bind_some, w64 (by omega) (by omega)]
  rfl
theorem enc_of_dec {t y : List Int} (ht : Bytes t) (h : dec (ub t) 0 0 true [] = some y) : Bytes y ∧ IsEnc y t := by
  obtain ⟨z, p, h1, h2, h3, h4⟩ := dec_sound (ub t) 0 0 true [] y Pend.zero rfl h
  rw [List.nil_append] at h1
  subst h1
  exact ⟨h3, ht, p, h2, h4⟩
end Go.Proofs.YtfkdocmhbmameaaDoor.Pure
namespace Go.Proofs.YtfkdocmhbmameaaDoor.Pure
open Go.RowKit Go.Proofs.YtfkdocmhbmameaaDoor.Mine Go.Proofs.YtfkdocmhbmameaaDoorW.PrintWords Go.Proofs.YtfkdocmhbmameaaDoorW.PrintLast Go.Proofs.YtfkdocmhbmameaaDoorW.PrintMore
set_option linter.unusedVariables false
theorem codesL_length' : codesL.length = 257 := by decide +kernel
theorem codes_all' : ∀ k : Fin 257, rd codesL ((k.val : Nat) : Int) = ((hcCode k.val : Nat) : Int) := by decide +kernel
theorem ref_l3 (out : List Int) {n : Nat} (hn : n ≤ 7) : ∀ d j c : Nat, j + d = n → c < 2 ^ d →
    Ev (fun k => nuncioref10_Decode.l3 k out (c : Int) (n : Int) (j : Int)) (res (if c + 1 = 2 ^ d then some out else none))
  | 0, j, c, hd, hc => by
    refine Ev.step (f := fun _ => some (res (some out))) (fun k => ?_) ?_
    · simp only [nuncioref10_Decode.l3]
      rw [if_neg (by omega)]
      rfl
    · rw [if_pos (by omega)]; exact Ev.now _
  | d + 1, j, c, hd, hc => by
    have hq : 2 ^ (d + 1) ≤ 2 ^ 7 := pow_le_pow (by omega)
    rw [Nat.pow_succ] at hc ⊢
    by_cases h2 : c % 2 = 0
    · refine Ev.step (f := fun _ => some (res none)) (fun k => ?_) ?_
      · simp only [nuncioref10_Decode.l3]
        rw [if_pos (by omega), tmod_pos _ (by omega), if_pos (by omega)]
        rfl
      · rw [if_neg (by omega)]; exact Ev.now _
    · have ih := ref_l3 out hn d (j + 1) (c / 2) (by omega) (by omega)
      have e : (c / 2 + 1 = 2 ^ d) ↔ (c + 1 = 2 ^ d * 2) := by omega
      rw [show (if c + 1 = 2 ^ d * 2 then some out else none) = (if c / 2 + 1 = 2 ^ d then some out else none) by simp only [e]]
      refine Ev.step (fun k => ?_) ih
      rw [Nat.pow_succ] at hq
      simp only [nuncioref10_Decode.l3]
      rw [if_pos (by omega), tmod_pos _ (by omega), if_neg (by omega), tdiv_pos _ (by omega), wu64_id (n := (c : Int) / 2) (by omega) (by omega), w64 (x := (j : Int) + 1) (by omega) (by omega)]
      rfl
theorem ref_l2 (s : ByteArray) {out : List Int} {code n i : Nat} (hout : out.length ≤ 8000000) (hn : n < 31) (r : ByteArray × Int)
    (H0 : look n code = none → Ev (fun k => nuncioref10_Decode.l0 k s codesL out (code : Int) (n : Int) (wrap64 ((i : Int) + 1))) r)
    (H1 : look n code = some 256 → r = res none)
    (H2 : ∀ sg, look n code = some sg → sg ≠ 256 → Ev (fun k => nuncioref10_Decode.l0 k s codesL (out ++ [(sg : Int)]) 0 0 (wrap64 ((i : Int) + 1))) r) :
    ∀ d c : Nat, c + d = 257 → (∀ q, q < c → look n code ≠ some q) → Ev (fun k => nuncioref10_Decode.l2 k s codesL out (code : Int) (n : Int) (i : Int) (c : Int)) r
  | 0, c, hd, hc => by
    have hnone : look n code = none := by
      cases e : look n code with
      | none => rfl
      | some q => exact absurd e (hc q (by have := (look_some hn e).2.2.2.2.2.1; omega))
    refine Ev.step (fun k => ?_) (H0 hnone)
    simp only [nuncioref10_Decode.l2]
    rw [if_neg (by omega)]
  | d + 1, c, hd, hc => by
    have hc257 : c < 257 := by omega
    have hb := hcLen_bounds c hc257
    by_cases hk : look n code = some c
    · obtain ⟨_, _, _, _, _, _, hL, hC⟩ := look_some hn hk
      have hj3 : Ev (fun k => nuncioref10_Decode.j3 k s codesL out (code : Int) (n : Int) (i : Int) (c : Int) true) r := by
        by_cases h256 : c = 256
        · subst h256
          refine Ev.step (f := fun _ => some r) (fun k => ?_) (Ev.now _)
          simp only [nuncioref10_Decode.j3]
          rw [if_pos trivial, if_pos (by rfl), H1 hk]
          rfl
        · refine Ev.step (fun k => ?_) (H2 c hk h256)
          simp only [nuncioref10_Decode.j3]
          rw [if_pos trivial, if_neg (by omega), if_pos (by omega), show (c : Int) % 256 = (c : Int) by omega]
      refine Ev.step (fun k => ?_) hj3
      simp only [nuncioref10_Decode.l2]
      rw [if_pos (by omega), length_f (by omega) (by omega), Option.bind_some, Int.toNat_natCast, if_pos (by omega), if_pos (by omega), if_pos (by rw [codesL_length']; omega), codes_all' ⟨c, hc257⟩, hC, beq_self_eq_true]
    · have ih := ref_l2 s hout hn r H0 H1 H2 d (c + 1) (by omega) (fun q hq => by
        by_cases e : q = c
        · subst e; exact hk
        · exact hc q (by omega))
      have hj3 : Ev (fun k => nuncioref10_Decode.j3 k s codesL out (code : Int) (n : Int) (i : Int) (c : Int) false) r := by
        refine Ev.step (fun k => ?_) ih
        simp only [nuncioref10_Decode.j3]
        rw [if_neg (by simp), w64 (x := (c : Int) + 1) (by omega) (by omega)]
        rfl
      refine Ev.step (fun k => ?_) hj3
      simp only [nuncioref10_Decode.l2]
      rw [if_pos (by omega), length_f (by omega) (by omega), Option.bind_some, Int.toNat_natCast]
      by_cases hL : hcLen c = n
      · rw [if_pos (by omega), if_pos (by omega), if_pos (by rw [codesL_length']; omega), codes_all' ⟨c, hc257⟩]
        have hne : (((hcCode c : Nat) : Int) == ((code : Nat) : Int)) = false := by
          rw [beq_eq_false_iff_ne]
          intro e
          have e2 : hcCode c = code := by omega
          have := look_of c hc257
          rw [hL, e2] at this
          exact hk this
        rw [hne]
      · rw [if_neg (by omega)]
theorem ref_l1 (s : ByteArray) {out : List Int} {code n i : Nat} (hcode : code < 1073741824) (hn : n ≤ 29) (r : ByteArray × Int) : ∀ d j y : Nat, j + d = 7 → y < 256 →
    Ev (fun k => nuncioref10_Decode.l2 k s codesL out ((2 * code + y / 2 ^ d % 2 : Nat) : Int) ((n + 1 : Nat) : Int) (i : Int) 0) r →
    Ev (fun k => nuncioref10_Decode.l1 k s codesL out (code : Int) (n : Int) (i : Int) (y : Int) (j : Int)) r
  | 0, j, y, hd, hy, H => by
    refine Ev.step (fun k => ?_) H
    simp only [nuncioref10_Decode.l1]
    rw [if_neg (by omega), w64 (x := (n : Int) + 1) (by omega) (by omega), if_neg (by omega), tmod_pos _ (by omega), wu64_id (n := (code : Int) * 2) (by omega) (by omega), wu64_id (n := (y : Int) % 2) (by omega) (by omega), wu64_id (n := (code : Int) * 2 + (y : Int) % 2) (by omega) (by omega), Nat.pow_zero, Nat.div_one, show (code : Int) * 2 + (y : Int) % 2 = ((2 * code + y % 2 : Nat) : Int) by omega]
    rfl
  | d + 1, j, y, hd, hy, H => by
    have ih := ref_l1 s hcode hn r d (j + 1) (y / 2) (by omega) (by omega) (by rw [show y / 2 / 2 ^ d = y / 2 ^ (d + 1) by rw [Nat.div_div_eq_div_mul, Nat.pow_succ, Nat.mul_comm]]; exact H)
    refine Ev.step (fun k => ?_) ih
    simp only [nuncioref10_Decode.l1]
    rw [if_pos (by omega), tdiv_pos _ (by omega), show (y : Int) / 2 % 256 = ((y / 2 : Nat) : Int) by omega, w64 (x := (j : Int) + 1) (by omega) (by omega)]
    rfl
set_option maxHeartbeats 1000000 in
theorem ref_l0 {s : ByteArray} (hs : s.size ≤ 1000000) : ∀ (bs : List Bool) (i code n : Nat) (ones : Bool) (out : List Int), bs = (ub (bytesOf s)).drop i → i + bs.length = 8 * s.size → Pend code n → ones = (code + 1 == 2 ^ n) → out.length ≤ i →
    Ev (fun k => nuncioref10_Decode.l0 k s codesL out (code : Int) (n : Int) (i : Int)) (res (dec bs code n ones out))
  | [], i, code, n, ones, out, hbs, hi, hP, hones, ho => by
    have hi2 : i = 8 * s.size := by simpa using hi
    have e8 : Unit → wrap64 (8 * (s.size : Int)) = 8 * (s.size : Int) := fun _ => w64 (by omega) (by omega)
    rw [dec]
    by_cases h7 : n > 7
    · rw [if_pos (.inl h7)]
      refine Ev.step (f := fun _ => some (res none)) (fun k => ?_) (Ev.now _)
      simp only [nuncioref10_Decode.l0]
      rw [e8 (), if_neg (by omega), if_pos (by omega)]
      rfl
    · have h3 := ref_l3 out (n := n) (by omega) n 0 code (by omega) hP.1
      have e : (if n > 7 ∨ ones = false then none else some out) = (if code + 1 = 2 ^ n then some out else none) := by
        rw [hones]
        by_cases hc : code + 1 = 2 ^ n
        · rw [if_pos hc, if_neg (by rw [beq_iff_eq.2 hc]; intro h_; rcases h_ with h_ | h_; omega; cases h_)]
        · rw [if_neg hc, if_pos (.inr (beq_eq_false_iff_ne.2 hc))]
      rw [e]
      refine Ev.step (fun k => ?_) h3
      simp only [nuncioref10_Decode.l0]
      rw [e8 (), if_neg (by omega), if_neg (by omega)]
      rfl
  | b :: bs, i, code, n, ones, out, hbs, hi, hP, hones, ho => by
    have hlen : (bytesOf s).length = s.size := bytesOf_length s
    rw [List.length_cons] at hi
    have hd := ub_drop (l := bytesOf s) (i := i) (by omega)
    rw [hd] at hbs
    obtain ⟨hb, hbs'⟩ := List.cons.inj hbs
    have hi8 : i / 8 < (bytesOf s).length := by omega
    have hby := bytesOf_bytes s _ (List.getElem_mem hi8)
    obtain ⟨x, hx⟩ : ∃ x : Nat, (bytesOf s)[i / 8] = (x : Int) := ⟨((bytesOf s)[i / 8]).toNat, by omega⟩
    have e1 : (bytesOf s).getD (i / 8) 0 = (x : Int) := by rw [List.getD_eq_getElem?_getD, List.getElem?_eq_getElem hi8, Option.getD_some, hx]
    rw [e1, Int.toNat_natCast] at hb
    have hcode : code < 536870912 := by
      have h1 := hP.1
      have h2 : 2 ^ n ≤ 2 ^ 29 := pow_le_pow hP.2.1
      omega
    have hn29 := hP.2.1
    have hbn : b.toNat = x / 2 ^ (7 - i % 8) % 2 := by rw [hb, bit_toNat]
    have e8 : Unit → wrap64 (8 * (s.size : Int)) = 8 * (s.size : Int) := fun _ => w64 (by omega) (by omega)
    have ei : Unit → wrap64 ((i : Int) + 1) = ((i + 1 : Nat) : Int) := fun _ => by rw [w64 (by omega) (by omega)]; rfl
    have hones' : (ones && b) = (2 * code + b.toNat + 1 == 2 ^ (n + 1)) := by
      rw [hones, Nat.pow_succ, Bool.eq_iff_iff]
      generalize 2 ^ n = q
      clear hbn hb
      cases b
      · rw [Bool.and_false, beq_iff_eq, show false.toNat = 0 from rfl]
        constructor
        · intro h_; cases h_
        · intro h_; omega
      · rw [Bool.and_true, beq_iff_eq, beq_iff_eq, show true.toNat = 1 from rfl]
        constructor <;> intro h_ <;> omega
    have hl2 : Ev (fun k => nuncioref10_Decode.l2 k s codesL out ((2 * code + b.toNat : Nat) : Int) ((n + 1 : Nat) : Int) (i : Int) 0) (res (dec (b :: bs) code n ones out)) := by
      refine ref_l2 s (by omega) (by omega) _ (fun h => ?_) (fun h => ?_) (fun sg h h256 => ?_) 257 0 (by omega) (fun q hq => by omega)
      · rw [dec, h, ei ()]
        exact ref_l0 hs bs (i + 1) _ (n + 1) (ones && b) out hbs' (by omega) (hP.step b h) hones' (by omega)
      · rw [dec, h]
        simp only
        rw [if_pos trivial]
      · rw [dec, h, ei ()]
        simp only
        rw [if_neg h256]
        exact ref_l0 hs bs (i + 1) 0 0 true (out ++ [(sg : Int)]) hbs' (by omega) Pend.zero rfl (by simp; omega)
    have hl1 := ref_l1 s (out := out) (code := code) (i := i) (by omega) hn29 _ (7 - i % 8) (i % 8) x (by omega) (by omega) (by rw [← hbn]; exact hl2)
    refine Ev.step (fun k => ?_) hl1
    have e2 : bt s (((i / 8 : Nat)) : Int) = (x : Int) := by rw [bt_eq, rd_nat hi8, hx]
    simp only [nuncioref10_Decode.l0]
    rw [e8 (), if_pos (by omega), tdiv_pos (a := (i : Int)) _ (by omega), w64 (x := (i : Int) / 8) (by omega) (by omega), if_pos (by omega), if_pos (by omega), tmod_pos (a := (i : Int)) _ (by omega), show (i : Int) / 8 = ((i / 8 : Nat) : Int) by omega, e2, show (i : Int) % 8 = ((i % 8 : Nat) : Int) by omega]
theorem ref_decode_f (s : ByteArray) (hs : s.size ≤ 1000000) : Ev (fun k => nuncioref10_Decode.f k s) (res (dec (ub (bytesOf s)) 0 0 true [])) := by
  have hlen : (bytesOf s).length = s.size := bytesOf_length s
  have h := ref_l0 hs (ub (bytesOf s)) 0 0 0 true [] (by rw [List.drop_zero]) (by rw [ub_length]; omega) Pend.zero rfl (by simp)
  refine Ev.congr (fun k => by unfold nuncioref10_Decode.f; rfl) (Ev.bind codes_f ?_)
  exact h
end Go.Proofs.YtfkdocmhbmameaaDoor.Pure
namespace Go.Proofs.YtfkdocmhbmameaaDoor.Pure
open Go.RowKit Go.Proofs.YtfkdocmhbmameaaDoor.Mine Go.Proofs.YtfkdocmhbmameaaDoorW.PrintWords Go.Proofs.YtfkdocmhbmameaaDoorW.PrintLast Go.Proofs.YtfkdocmhbmameaaDoorW.PrintMore
theorem part_yes {s : ByteArray} {at_ n : Int} (hs : s.size ≤ 4611686018427387904) (h0 : 0 ≤ at_) (h1 : 0 ≤ n) (h2 : at_ + n ≤ s.size) : num_Part.f s at_ n = some (s.extract at_.toNat (at_ + n).toNat, true) := by
  have e1 : wrap64 ((s.size : Int) - at_) = (s.size : Int) - at_ := w64 (by omega) (by omega)
  have e2 : wrap64 (at_ + n) = at_ + n := w64 (by omega) (by omega)
  unfold num_Part.f
  rw [e1, e2, if_neg (by omega), if_neg (by omega), if_neg (by omega), if_neg (by omega), if_pos (by omega), if_pos (by omega), if_pos (by omega)]
theorem part_no {s : ByteArray} {at_ n : Int} (hs : s.size ≤ 4611686018427387904) (h : at_ < 0 ∨ n < 0 ∨ (s.size : Int) < at_ + n) : num_Part.f s at_ n = some ((⟨#[]⟩ : ByteArray), false) := by
  unfold num_Part.f
  by_cases h0 : at_ < 0
  · rw [if_pos h0]
  by_cases h1 : n < 0
  · rw [if_neg h0, if_pos h1]
  by_cases h2 : at_ > (s.size : Int)
  · rw [if_neg h0, if_neg h1, if_pos h2]
  have e1 : wrap64 ((s.size : Int) - at_) = (s.size : Int) - at_ := w64 (by omega) (by omega)
  rw [e1, if_neg h0, if_neg h1, if_neg h2, if_pos (by omega)]
theorem rpart_eq (s : ByteArray) (at_ n : Int) : nuncioref01_Part.f s at_ n = num_Part.f s at_ n := rfl
end Go.Proofs.YtfkdocmhbmameaaDoor.Pure
namespace Go.Proofs.YtfkdocmhbmameaaDoor.Pure
open Go.RowKit Go.Proofs.YtfkdocmhbmameaaDoor.Mine Go.Proofs.YtfkdocmhbmameaaDoorW.PrintWords Go.Proofs.YtfkdocmhbmameaaDoorW.PrintLast Go.Proofs.YtfkdocmhbmameaaDoorW.PrintMore
set_option linter.unusedVariables false
theorem sm_ge : ∀ (l : List S88), 32 * (l.length : Int) ≤ sm l
  | [] => by simp [sm]
  | x :: r => by
    have := sm_ge r
    have := es_ge x
    simp only [sm, List.length_cons]
    omega
theorem sm_mem : ∀ (l : List S88), ∀ x ∈ l, es x ≤ sm l
  | [], x, h => by simp at h
  | y :: r, x, h => by
    have h1 := sm_nonneg r
    have h2 := es_ge y
    simp only [sm]
    rcases List.mem_cons.mp h with rfl | h
    · omega
    · have := sm_mem r x h
      omega
def Wt (m : M) : Prop := Ok 128 m ∧ m.1 ≤ 4096
theorem Wt.of {n : Nat} {m : M} (h : Ok n m) (h1 : m.1 ≤ 4096) : Wt m := ⟨⟨h.1, by have := sm_ge m.2; have := h.2.2.2; omega, h.2.2⟩, h1⟩
theorem Wt.add {m : M} (h : Wt m) {a b : ByteArray} (he : es ⟨a, b⟩ ≤ 10000) : Wt (Pure.add m a b) := Wt.of (ok_add h.1 he) h.2
theorem Wt.rsz {m : M} (h : Wt m) {x : Int} (hx : x ≤ 4096) : Wt (Pure.rsz m x) := Wt.of (ok_rsz h.1 (by omega)) (by show mx x 0 ≤ 4096; unfold mx; split <;> omega)
theorem F38_small : ∀ x ∈ F38, es x ≤ 100 := by
  have h : (fxs.all fun p => decide (p.1.length + p.2.length ≤ 68)) = true := by decide +kernel
  intro x hx
  unfold F38 at hx
  obtain ⟨p, hp, rfl⟩ := List.mem_map.mp hx
  have := of_decide_eq_true (List.all_eq_true.mp h p hp)
  unfold es en
  simp only [bs_size]
  omega
theorem at_small {m : M} (h : Wt m) (n : Int) : ((atM m n).1.size : Int) + ((atM m n).2.1.size : Int) ≤ 4096 := by
  unfold atM atF
  split
  · have h2 : ∀ x ∈ F38 ++ m.2, es x ≤ 4096 := fun x hx => by
      rcases List.mem_append.mp hx with hx | hx
      · have := F38_small x hx; omega
      · have := sm_mem m.2 x hx; have := h.1.2.2.2; have := h.2; omega
    simp only
    generalize F38 ++ m.2 = l at h2
    rcases Nat.lt_or_ge (n - 1).toNat l.length with hi | hi
    · rw [List.getD_eq_getElem?_getD, List.getElem?_eq_getElem hi, Option.getD_some]
      have := h2 _ (List.getElem_mem hi)
      unfold es at this
      omega
    · rw [List.getD_eq_getElem?_getD, List.getElem?_eq_none hi, Option.getD_none]
      have e : (z88.f0.size : Int) + (z88.f1.size : Int) = 0 := rfl
      simp only [e]
      omega
  · have e : ((⟨#[]⟩ : ByteArray).size : Int) = 0 := rfl
    simp only [e]
    omega
theorem tbAt_M (m : M) (n : Int) : tbAt (mkT m).fx (mkT m).l n = atM m n := by
  have h := tbAt_F tbFixed_len m n
  rw [fixed_cv] at h
  dsimp only [mkT]
  exact h
theorem mkT_len (m : M) : (mkT m).l.length = m.2.length := by unfold mkT; simp
theorem mkT_fx (m : M) : (mkT m).fx.length = 61 := by dsimp only [mkT]; exact tbFixed_len
theorem getT_ok (a : Int) : ∀ (rem i : Nat) (acc : Int) (l : List Int) (r nx : Int), Bytes l → 0 ≤ acc → acc ≤ 4294967295 → getT rem i acc l a = (r, nx, 0) → 0 ≤ r ∧ r ≤ 4294967295 ∧ a + 2 + i ≤ nx ∧ nx + 1 ≤ a + 2 + i + l.length
  | 0, i, acc, l, r, nx, hb, h0, h1, h => by simp [getT] at h
  | rem + 1, i, acc, [], r, nx, hb, h0, h1, h => by simp [getT] at h
  | rem + 1, i, acc, c :: l, r, nx, hb, h0, h1, h => by
    have hc := hb.head
    have hp := p128_pos i
    have hq : 0 ≤ c % 128 * 128 ^ i := Int.mul_nonneg (by omega) (by omega)
    rw [getT] at h
    simp only [List.length_cons]
    by_cases ho : acc + c % 128 * 128 ^ i > 4294967295
    · rw [if_pos ho] at h; simp at h
    · rw [if_neg ho] at h
      by_cases hl : c < 128
      · rw [if_pos hl] at h
        simp only [Prod.mk.injEq, and_true] at h
        obtain ⟨rfl, rfl⟩ := h
        generalize c % 128 * 128 ^ i = q at *
        omega
      · rw [if_neg hl] at h
        have := getT_ok a rem (i + 1) _ l r nx hb.tail (by omega) (by omega) h
        omega
theorem getI_ok {F : Int} (hF : 1 ≤ F ∧ F ≤ 255) {l : List Int} (hb : Bytes l) {a n nx : Int} (h : getI F l a = (n, nx, 0)) : 0 ≤ n ∧ n ≤ 4294967295 ∧ a < nx ∧ nx ≤ l.length := by
  unfold getI at h
  by_cases h1 : a < 0 ∨ a ≥ l.length
  · rw [if_pos h1] at h; simp at h
  · rw [if_neg h1] at h
    have hm1 := Int.emod_nonneg (rd l a) (show F + 1 ≠ 0 by omega)
    have hm2 := Int.emod_lt_of_pos (rd l a) (show 0 < F + 1 by omega)
    by_cases h2 : rd l a % (F + 1) < F
    · rw [if_pos h2] at h
      simp only [Prod.mk.injEq, and_true] at h
      obtain ⟨rfl, rfl⟩ := h
      omega
    · rw [if_neg h2] at h
      have := getT_ok a 5 0 _ _ n nx (hb.drop _) (by omega) (by omega) h
      rw [List.length_drop] at this
      omega
theorem getT_err (a : Int) : ∀ (rem i : Nat) (acc : Int) (l : List Int) (r nx e : Int), getT rem i acc l a = (r, nx, e) → e ≠ 0 → r = 0 ∧ nx = 0
  | 0, i, acc, l, r, nx, e, h, he => by rw [getT] at h; simp only [Prod.mk.injEq] at h; exact ⟨h.1.symm, h.2.1.symm⟩
  | rem + 1, i, acc, [], r, nx, e, h, he => by rw [getT] at h; simp only [Prod.mk.injEq] at h; exact ⟨h.1.symm, h.2.1.symm⟩
  | rem + 1, i, acc, c :: l, r, nx, e, h, he => by
    rw [getT] at h
    split at h
    · simp only [Prod.mk.injEq] at h; exact ⟨h.1.symm, h.2.1.symm⟩
    · split at h
      · simp only [Prod.mk.injEq] at h; exact absurd h.2.2.symm he
      · exact getT_err a rem (i + 1) _ l r nx e h he
theorem getI_err {F : Int} (hF : 1 ≤ F ∧ F ≤ 255) {l : List Int} {a n nx e : Int} (h : getI F l a = (n, nx, e)) (he : e ≠ 0) : n = 0 ∧ nx = 0 := by
  unfold getI at h
  split at h
  · simp only [Prod.mk.injEq] at h; exact ⟨h.1.symm, h.2.1.symm⟩
  · split at h
    · simp only [Prod.mk.injEq] at h; exact absurd h.2.2.symm he
    · exact getT_err a _ _ _ _ _ _ _ h he
theorem pget_ev (s : ByteArray) (hs : s.size ≤ 1000000) (a bits : Int) : Ev (fun k => prefix_Get.f k s a bits) (getI (ful bits) (bytesOf s) a) := ⟨8, fun k hk => pget_f bits (by omega) hk⟩
theorem rnum_ev (s : ByteArray) (hs : s.size ≤ 1000000) (a bits : Int) {n nx e : Int} (h : getI (ful bits) (bytesOf s) a = (n, nx, e)) : Ev (fun k => rfNum k s a 0 bits) (wrap64 n, nx, e) := ⟨9, fun k hk => by show rfNum k s a 0 bits = _; unfold rfNum; rw [if_pos rfl, rget9_f bits (by omega) hk, h]; rfl⟩
theorem dec_size {t : ByteArray} {y : List Int} (h : dec (ub (bytesOf t)) 0 0 true [] = some y) : 5 * y.length ≤ 8 * t.size := by
  obtain ⟨hy, ho, p, hp, hub⟩ := enc_of_dec (bytesOf_bytes t) h
  have h1 := congrArg List.length hub
  rw [ub_length, List.length_append, List.length_replicate, bytesOf_length] at h1
  have := (eb_length_bounds hy).1
  omega
theorem text_ev {s : ByteArray} (hs : s.size ≤ 3000) {a : Int} (h0 : 0 ≤ a) :
    (∃ t a', Ev (fun k => upText k s a) (.ok (t, a')) ∧ Ev (fun k => rfText k s a 0) (t, a', 0) ∧ a < a' ∧ a' ≤ (s.size : Int) ∧ 5 * (t.size : Int) ≤ 8 * (a' - a)) ∨
    (∃ e t a', e ≠ 0 ∧ Ev (fun k => upText k s a) (.error e) ∧ Ev (fun k => rfText k s a 0) (t, a', e)) := by
  obtain ⟨⟨n, nx, e⟩, hg⟩ : ∃ R, getI (ful 7) (bytesOf s) a = R := ⟨_, rfl⟩
  have e1 := pget_ev s (by omega) a 7
  have e2 := rnum_ev s (by omega) a 7 hg
  rw [hg] at e1
  have u1 : ∀ k, upText k s a = upText0 k s a := fun k => by unfold upText; rw [if_pos h0]
  have u2 : ∀ k, rfText k s a 0 = rfText0 k s a (decide (a < (s.size : Int)) && decide (bt s a ≥ 128)) := fun k => by unfold rfText; rw [if_pos rfl, if_pos h0]
  by_cases he : e = 0
  · subst he
    obtain ⟨hn0, hn1, ha1, ha2⟩ := getI_ok (ful_range 7) (bytesOf_bytes s) hg
    rw [bytesOf_length] at ha2
    have hw : wrap64 n = n := w64 (by omega) (by omega)
    rw [hw] at e2
    obtain ⟨pk, hpk⟩ : ∃ b : Bool, (decide (a < (s.size : Int)) && decide (bt s a ≥ 128)) = b := ⟨_, rfl⟩
    by_cases hp : nx + n ≤ s.size
    · have p1 := part_yes (s := s) (at_ := nx) (n := n) (by omega) (by omega) hn0 hp
      have hx : (s.extract nx.toNat (nx + n).toNat).size = n.toNat := by rw [ByteArray.size_extract]; omega
      have hw2 : wrap64 (nx + n) = nx + n := w64 (by omega) (by omega)
      generalize s.extract nx.toNat (nx + n).toNat = t at p1 hx
      cases pk with
      | false =>
        refine .inl ⟨t, nx + n, ?_, ?_, by omega, hp, by omega⟩
        · refine Ev.congr (fun k => by rw [u1, upText0, hpk]) (Ev.bind e1 (ev_pos rfl ?_))
          exact ev_bind0 (show num_Part.f s nx (wrap64 n) = some (t, true) by rw [hw]; exact p1) (ev_pos rfl (ev_neg (by decide) (ev_val (by simp only [hw, hw2]))))
        · refine Ev.congr (fun k => by rw [u2, rfText0, hpk]) (Ev.bind e2 (ev_pos rfl ?_))
          refine ev_bind0 ((rpart_eq _ _ _).trans p1) (ev_pos rfl (ev_neg (by decide) (ev_val ?_)))
          simp only [hw2]
      | true =>
        have d1 := decode_f t (by omega)
        have d2 := ref_decode_f t (by omega)
        cases hd : dec (ub (bytesOf t)) 0 0 true [] with
        | some y =>
          rw [hd] at d1 d2
          have hy := dec_size hd
          refine .inl ⟨strOfNums y, nx + n, ?_, ?_, by omega, hp, by rw [strOfNums_size]; omega⟩
          · refine Ev.congr (fun k => by rw [u1, upText0, hpk]) (Ev.bind e1 (ev_pos rfl ?_))
            exact ev_bind0 (show num_Part.f s nx (wrap64 n) = some (t, true) by rw [hw]; exact p1) (ev_pos rfl (ev_pos rfl (Ev.bind d1 (ev_pos rfl (ev_val (by simp only [hw, hw2]; rfl))))))
          · refine Ev.congr (fun k => by rw [u2, rfText0, hpk]) (Ev.bind e2 (ev_pos rfl ?_))
            refine ev_bind0 ((rpart_eq _ _ _).trans p1) (ev_pos rfl (ev_pos rfl (Ev.bind d2 (ev_val ?_))))
            simp only [hw2]
            rfl
        | none =>
          rw [hd] at d1 d2
          refine .inr ⟨91, ⟨#[]⟩, nx + n, by decide, ?_, ?_⟩
          · refine Ev.congr (fun k => by rw [u1, upText0, hpk]) (Ev.bind e1 (ev_pos rfl ?_))
            exact ev_bind0 (show num_Part.f s nx (wrap64 n) = some (t, true) by rw [hw]; exact p1) (ev_pos rfl (ev_pos rfl (Ev.bind d1 (ev_neg (by decide) (ev_val rfl)))))
          · refine Ev.congr (fun k => by rw [u2, rfText0, hpk]) (Ev.bind e2 (ev_pos rfl ?_))
            refine ev_bind0 ((rpart_eq _ _ _).trans p1) (ev_pos rfl (ev_pos rfl (Ev.bind d2 (ev_val ?_))))
            simp only [hw2]
            rfl
    · have p1 := part_no (s := s) (at_ := nx) (n := n) (by omega) (.inr (.inr (by omega)))
      refine .inr ⟨2, ⟨#[]⟩, nx, by decide, ?_, ?_⟩
      · refine Ev.congr (fun k => by rw [u1, upText0]) (Ev.bind e1 (ev_pos rfl ?_))
        exact ev_bind0 (show num_Part.f s nx (wrap64 n) = some ((⟨#[]⟩ : ByteArray), false) by rw [hw]; exact p1) (ev_neg (by decide) (Ev.now _))
      · refine Ev.congr (fun k => by rw [u2, rfText0]) (Ev.bind e2 (ev_pos rfl ?_))
        exact ev_bind0 ((rpart_eq _ _ _).trans p1) (ev_neg (by decide) (Ev.now _))
  · refine .inr ⟨e, ⟨#[]⟩, nx, he, ?_, ?_⟩
    · exact Ev.congr (fun k => by rw [u1, upText0]) (Ev.bind e1 (ev_neg he (Ev.now _)))
    · exact Ev.congr (fun k => by rw [u2, rfText0]) (Ev.bind e2 (ev_neg he (Ev.now _)))
theorem rtext_err (k : Nat) (s : ByteArray) (a : Int) {e : Int} (he : e ≠ 0) : rfText k s a e = some (⟨#[]⟩, a, e) := by unfold rfText; rw [if_neg he]
end Go.Proofs.YtfkdocmhbmameaaDoor.Pure
namespace Go.Proofs.YtfkdocmhbmameaaDoor.Pure
open Go.RowKit Go.Proofs.YtfkdocmhbmameaaDoor.Mine Go.Proofs.YtfkdocmhbmameaaDoorW.PrintWords Go.Proofs.YtfkdocmhbmameaaDoorW.PrintLast Go.Proofs.YtfkdocmhbmameaaDoorW.PrintMore
set_option linter.unusedVariables false
abbrev FD := S26
theorem rent_ev {m : M} (h : Wt m) {n : Int} (hn : n ≤ 9223372036854775807) : Ev (fun k => rfEnt k m.1 m.2 0 n) ((atM m n).1, (atM m n).2.1, if (atM m n).2.2 = true then 0 else 92) := by
  obtain ⟨K, hK⟩ := rat_ev h.1 (by omega) hn
  exact ⟨K, fun k hk => by show rfEnt k m.1 m.2 0 n = _; unfold rfEnt; rw [if_pos rfl]; have h_ := hK k hk; simp only at h_; rw [h_]; rfl⟩
theorem rent_err (k : Nat) (m : M) (n : Int) {e : Int} (he : e ≠ 0) : rfEnt k m.1 m.2 e n = some (⟨#[]⟩, ⟨#[]⟩, e) := by unfold rfEnt; rw [if_neg he]
theorem lit_ev {s : ByteArray} (hs : s.size ≤ 3000) {a : Int} (h0 : 0 ≤ a) {m : M} (hm : Wt m) (bits : Int) :
    (∃ nm vl a', Ev (fun k => upLit k (mkT m) s a bits) (.ok (nm, vl, a')) ∧ Ev (fun k => rfLit k m.1 m.2 s a 0 bits) (nm, vl, a', 0) ∧ a < a' ∧ a' ≤ (s.size : Int) ∧ es ⟨nm, vl⟩ ≤ 10000) ∨
    (∃ e nm vl a', e ≠ 0 ∧ Ev (fun k => upLit k (mkT m) s a bits) (.error e) ∧ Ev (fun k => rfLit k m.1 m.2 s a 0 bits) (nm, vl, a', e)) := by
  obtain ⟨⟨n, nx, e⟩, hg⟩ : ∃ R, getI (ful bits) (bytesOf s) a = R := ⟨_, rfl⟩
  have e1 := pget_ev s (by omega) a bits
  have e2 := rnum_ev s (by omega) a bits hg
  rw [hg] at e1
  by_cases he : e = 0
  · subst he
    obtain ⟨hn0, hn1, ha1, ha2⟩ := getI_ok (ful_range bits) (bytesOf_bytes s) hg
    rw [bytesOf_length] at ha2
    rw [w64 (x := n) (by omega) (by omega)] at e2
    by_cases hp : n > 0
    · have hc : n ≤ 9223372036854775807 ∧ (mkT m).l.length < 4398046511104 ∧ (mkT m).fx.length < 4398046511104 := ⟨by omega, by rw [mkT_len]; have := hm.1.2.1; omega, by rw [mkT_fx]; omega⟩
      have r1 := rent_ev hm (n := n) (by omega)
      obtain ⟨⟨nm, vl0, ok⟩, hR⟩ : ∃ R, atM m n = R := ⟨_, rfl⟩
      have hsm := at_small hm n
      rw [hR] at r1 hsm
      have p1 : tbAt (mkT m).fx (mkT m).l n = (nm, vl0, ok) := by rw [tbAt_M, hR]
      cases ok with
      | true =>
        rcases text_ev hs (a := nx) (by omega) with ⟨t, a', u1, u2, b1, b2, b3⟩ | ⟨e, t, a', he, u1, u2⟩
        · refine .inl ⟨nm, t, a', ?_, ?_, by omega, b2, ?_⟩
          · refine Ev.congr (fun k => by rw [upLit]) ?_
            refine Ev.bind e1 ?_
            refine ev_pos rfl ?_
            refine ev_pos hp ?_
            refine ev_pos hc ?_
            simp only [p1, if_true]
            exact Ev.bind u1 (Ev.now _)
          · refine Ev.congr (fun k => by rw [rfLit]) ?_
            refine Ev.bind e2 ?_
            refine ev_pos hp ?_
            refine Ev.bind r1 ?_
            exact Ev.bind u2 (Ev.now _)
          · unfold es
            simp only at hsm ⊢
            omega
        · refine .inr ⟨e, nm, t, a', he, ?_, ?_⟩
          · refine Ev.congr (fun k => by rw [upLit]) ?_
            refine Ev.bind e1 ?_
            refine ev_pos rfl ?_
            refine ev_pos hp ?_
            refine ev_pos hc ?_
            simp only [p1, if_true]
            exact Ev.bind u1 (Ev.now _)
          · refine Ev.congr (fun k => by rw [rfLit]) ?_
            refine Ev.bind e2 ?_
            refine ev_pos hp ?_
            refine Ev.bind r1 ?_
            exact Ev.bind u2 (Ev.now _)
      | false =>
        refine .inr ⟨92, nm, ⟨#[]⟩, nx, by decide, ?_, ?_⟩
        · refine Ev.congr (fun k => by rw [upLit]) ?_
          refine Ev.bind e1 ?_
          refine ev_pos rfl ?_
          refine ev_pos hp ?_
          refine ev_pos hc ?_
          simp only [p1, Bool.false_eq_true, if_false]
          exact Ev.now _
        · refine Ev.congr (fun k => by rw [rfLit]) ?_
          refine Ev.bind e2 ?_
          refine ev_pos hp ?_
          refine Ev.bind r1 ?_
          exact Ev.congr (fun k => by simp only [Bool.false_eq_true, if_false]; rw [rtext_err k s nx (by decide)]; rfl) (Ev.now _)
    · rcases text_ev hs (a := nx) (by omega) with ⟨t, a1, u1, u2, b1, b2, b3⟩ | ⟨e, t, a', he, u1, u2⟩
      · rcases text_ev hs (a := a1) (by omega) with ⟨v, a', v1, v2, d1, d2, d3⟩ | ⟨e, v, a', he, v1, v2⟩
        · refine .inl ⟨t, v, a', ?_, ?_, by omega, d2, ?_⟩
          · refine Ev.congr (fun k => by rw [upLit]) ?_
            refine Ev.bind e1 ?_
            refine ev_pos rfl ?_
            refine ev_neg hp ?_
            refine Ev.bind u1 ?_
            try dsimp only
            refine Ev.bind v1 ?_
            exact Ev.now _
          · refine Ev.congr (fun k => by rw [rfLit]) ?_
            refine Ev.bind e2 ?_
            refine ev_neg hp ?_
            refine Ev.bind u2 ?_
            try dsimp only
            refine Ev.bind v2 ?_
            exact Ev.now _
          · unfold es
            simp only
            omega
        · refine .inr ⟨e, t, v, a', he, ?_, ?_⟩
          · refine Ev.congr (fun k => by rw [upLit]) ?_
            refine Ev.bind e1 ?_
            refine ev_pos rfl ?_
            refine ev_neg hp ?_
            refine Ev.bind u1 ?_
            try dsimp only
            refine Ev.bind v1 ?_
            exact Ev.now _
          · refine Ev.congr (fun k => by rw [rfLit]) ?_
            refine Ev.bind e2 ?_
            refine ev_neg hp ?_
            refine Ev.bind u2 ?_
            try dsimp only
            refine Ev.bind v2 ?_
            exact Ev.now _
      · refine .inr ⟨e, t, ⟨#[]⟩, a', he, ?_, ?_⟩
        · refine Ev.congr (fun k => by rw [upLit]) ?_
          refine Ev.bind e1 ?_
          refine ev_pos rfl ?_
          refine ev_neg hp ?_
          refine Ev.bind u1 ?_
          exact Ev.now _
        · refine Ev.congr (fun k => by rw [rfLit]) ?_
          refine Ev.bind e2 ?_
          refine ev_neg hp ?_
          refine Ev.bind u2 ?_
          exact Ev.congr (fun k => by rw [rtext_err k s a' he]; rfl) (Ev.now _)
  · have hn : n = 0 ∧ nx = 0 := getI_err (ful_range bits) hg he
    obtain ⟨rfl, rfl⟩ := hn
    refine .inr ⟨e, ⟨#[]⟩, ⟨#[]⟩, 0, he, ?_, ?_⟩
    · refine Ev.congr (fun k => by rw [upLit]) ?_
      refine Ev.bind e1 ?_
      refine ev_neg he ?_
      exact Ev.now _
    · refine Ev.congr (fun k => by rw [rfLit]) ?_
      refine Ev.bind e2 ?_
      refine ev_neg (show ¬ (wrap64 0 > 0) by rw [w64 (by omega) (by omega)]; decide) ?_
      exact Ev.congr (fun k => by simp only []; rw [rtext_err k s 0 he, Option.bind_some, rtext_err k s 0 he]; rfl) (Ev.now _)
theorem btRng {s : ByteArray} {a : Int} (h0 : 0 ≤ a) (ha : a < (s.size : Int)) : 0 ≤ bt s a ∧ bt s a < 256 := by
  obtain ⟨i, rfl⟩ := Int.eq_ofNat_of_zero_le h0
  have hi : i < (bytesOf s).length := by rw [bytesOf_length]; omega
  rw [bt_eq, rd_nat hi]
  exact bytesOf_bytes s _ (List.getElem_mem hi)
theorem shr_iff {s : ByteArray} {a : Int} (h0 : 0 ≤ a) (ha : a < (s.size : Int)) : upShr s a = true ↔ 32 ≤ bt s a ∧ bt s a ≤ 63 := by
  have := btRng h0 ha
  unfold upShr
  rw [beq_iff_eq]
  omega
theorem step_ev {s : ByteArray} (hs : s.size ≤ 3000) {a : Int} (h0 : 0 ≤ a) (ha : a < (s.size : Int)) {m : M} (hm : Wt m) (out : List FD) (ho : out.length ≤ 64) :
    (∃ m' a' f, Ev (fun k => upStep k (mkT m) s a out.length) (mkT m', .ok (a', f)) ∧ Ev (fun k => rfRound k m.1 m.2 s a out) (m'.1, m'.2, a', 0, out ++ f.toList) ∧ Wt m' ∧ a < a' ∧ a' ≤ (s.size : Int) ∧ (out ++ f.toList).length ≤ 64) ∨
    (∃ m' e a' out', e ≠ 0 ∧ Ev (fun k => upStep k (mkT m) s a out.length) (mkT m', .error e) ∧ Ev (fun k => rfRound k m.1 m.2 s a out) (m'.1, m'.2, a', e, out') ∧ Wt m') := by
  by_cases hsh : upShr s a = true
  · have hz := (shr_iff h0 ha).mp hsh
    obtain ⟨⟨n, nx, e⟩, hg⟩ : ∃ R, getI (ful 5) (bytesOf s) a = R := ⟨_, rfl⟩
    have e1 := pget_ev s (by omega) a 5
    have e2 := rnum_ev s (by omega) a 5 hg
    rw [hg] at e1
    by_cases he : e = 0
    · subst he
      obtain ⟨hn0, hn1, ha1, ha2⟩ := getI_ok (ful_range 5) (bytesOf_bytes s) hg
      rw [bytesOf_length] at ha2
      have hw : wrap64 n = n := w64 (by omega) (by omega)
      rw [hw] at e2
      by_cases hv : 0 < out.length ∨ n > 4096
      · refine .inr ⟨m, 93, nx, out, by decide, ?_, ?_, hm⟩
        · have r : Ev (fun k => upRes k (mkT m) s a (decide (0 < out.length))) (.error 93) := by
            refine Ev.congr (fun k => by rw [upRes]) ?_
            refine Ev.bind e1 ?_
            refine ev_pos rfl ?_
            by_cases h1 : 0 < out.length
            · exact ev_pos (decide_eq_true h1) (Ev.now _)
            · refine ev_neg (by rw [decide_eq_false h1]; decide) ?_
              exact ev_pos (show n > 4096 by omega) (Ev.now _)
          refine Ev.congr (fun k => by rw [upStep]) ?_
          refine ev_pos h0 ?_
          refine ev_pos hsh ?_
          exact Ev.bind r (Ev.now _)
        · refine Ev.congr (fun k => by rw [rfRound]) ?_
          refine ev_pos h0 ?_
          refine ev_pos hz ?_
          refine Ev.bind e2 ?_
          refine ev_pos rfl ?_
          exact ev_pos hv (Ev.now _)
      · have hr := resize_f hm.1 (by omega) (x := n) (by omega)
        refine .inl ⟨rsz m n, nx, none, ?_, ?_, hm.rsz (by omega), ha1, ha2, by simpa using ho⟩
        · have r : Ev (fun k => upRes k (mkT m) s a (decide (0 < out.length))) (.ok (mkT (rsz m n), nx)) := by
            refine Ev.congr (fun k => by rw [upRes]) ?_
            refine Ev.bind e1 ?_
            refine ev_pos rfl ?_
            refine ev_neg (by rw [decide_eq_false (by omega)]; decide) ?_
            refine ev_neg (show ¬ n > 4096 by omega) ?_
            exact ⟨0, fun k _ => by simp only [hw, hr, Option.map_some]⟩
          refine Ev.congr (fun k => by rw [upStep]) ?_
          refine ev_pos h0 ?_
          refine ev_pos hsh ?_
          exact Ev.bind r (Ev.now _)
        · refine Ev.congr (fun k => by rw [rfRound]) ?_
          refine ev_pos h0 ?_
          refine ev_pos hz ?_
          refine Ev.bind e2 ?_
          refine ev_pos rfl ?_
          refine ev_neg hv ?_
          refine Ev.bind (rresize_ev hm.1 (by omega) n) ?_
          exact ev_val (by simp)
    · refine .inr ⟨m, e, nx, out, he, ?_, ?_, hm⟩
      · have r : Ev (fun k => upRes k (mkT m) s a (decide (0 < out.length))) (.error e) := by
          refine Ev.congr (fun k => by rw [upRes]) ?_
          refine Ev.bind e1 ?_
          exact ev_neg he (Ev.now _)
        refine Ev.congr (fun k => by rw [upStep]) ?_
        refine ev_pos h0 ?_
        refine ev_pos hsh ?_
        exact Ev.bind r (Ev.now _)
      · refine Ev.congr (fun k => by rw [rfRound]) ?_
        refine ev_pos h0 ?_
        refine ev_pos hz ?_
        refine Ev.bind e2 ?_
        exact ev_neg he (Ev.now _)
  · have hz : ¬ (32 ≤ bt s a ∧ bt s a ≤ 63) := fun h => hsh ((shr_iff h0 ha).mpr h)
    by_cases hl : out.length = 64
    · refine .inr ⟨m, 94, a, out, by decide, ?_, ?_, hm⟩
      · refine Ev.congr (fun k => by rw [upStep]) ?_
        refine ev_pos h0 ?_
        refine ev_neg hsh ?_
        exact ev_pos hl (Ev.now _)
      · refine Ev.congr (fun k => by rw [rfRound]) ?_
        refine ev_pos h0 ?_
        refine ev_neg hz ?_
        exact ev_pos hl (Ev.now _)
    · by_cases h128 : bt s a ≥ 128
      · obtain ⟨⟨n, nx, e⟩, hg⟩ : ∃ R, getI (ful 7) (bytesOf s) a = R := ⟨_, rfl⟩
        have e1 := pget_ev s (by omega) a 7
        have e2 := rnum_ev s (by omega) a 7 hg
        rw [hg] at e1
        by_cases he : e = 0
        · subst he
          obtain ⟨hn0, hn1, ha1, ha2⟩ := getI_ok (ful_range 7) (bytesOf_bytes s) hg
          rw [bytesOf_length] at ha2
          rw [w64 (x := n) (by omega) (by omega)] at e2
          have hc : 0 ≤ n ∧ n ≤ 9223372036854775807 ∧ (mkT m).l.length < 4398046511104 ∧ (mkT m).fx.length < 4398046511104 := ⟨hn0, by omega, by rw [mkT_len]; have := hm.1.2.1; omega, by rw [mkT_fx]; omega⟩
          have r1 := rent_ev hm (n := n) (by omega)
          obtain ⟨⟨nm, vl, ok⟩, hR⟩ : ∃ R, atM m n = R := ⟨_, rfl⟩
          rw [hR] at r1
          have p1 : tbAt (mkT m).fx (mkT m).l n = (nm, vl, ok) := by rw [tbAt_M, hR]
          cases ok with
          | true =>
            refine .inl ⟨m, nx, some ⟨nm, vl, false⟩, ?_, ?_, hm, ha1, ha2, by simp only [Option.toList, List.length_append, List.length_singleton]; omega⟩
            · refine Ev.congr (fun k => by rw [upStep]) ?_
              refine ev_pos h0 ?_
              refine ev_neg hsh ?_
              refine ev_neg hl ?_
              refine ev_pos h128 ?_
              refine Ev.bind e1 ?_
              refine ev_pos rfl ?_
              refine ev_pos hc ?_
              simp only [p1, if_true]
              exact Ev.now _
            · refine Ev.congr (fun k => by rw [rfRound]) ?_
              refine ev_pos h0 ?_
              refine ev_neg hz ?_
              refine ev_neg hl ?_
              refine ev_pos h128 ?_
              refine Ev.bind e2 ?_
              refine Ev.bind r1 ?_
              exact ev_val rfl
          | false =>
            refine .inr ⟨m, 92, nx, out ++ [⟨nm, vl, false⟩], by decide, ?_, ?_, hm⟩
            · refine Ev.congr (fun k => by rw [upStep]) ?_
              refine ev_pos h0 ?_
              refine ev_neg hsh ?_
              refine ev_neg hl ?_
              refine ev_pos h128 ?_
              refine Ev.bind e1 ?_
              refine ev_pos rfl ?_
              refine ev_pos hc ?_
              simp only [p1, Bool.false_eq_true, if_false]
              exact Ev.now _
            · refine Ev.congr (fun k => by rw [rfRound]) ?_
              refine ev_pos h0 ?_
              refine ev_neg hz ?_
              refine ev_neg hl ?_
              refine ev_pos h128 ?_
              refine Ev.bind e2 ?_
              refine Ev.bind r1 ?_
              exact ev_val (by simp)
        · obtain ⟨rfl, rfl⟩ := getI_err (ful_range 7) hg he
          refine .inr ⟨m, e, 0, out ++ [⟨⟨#[]⟩, ⟨#[]⟩, false⟩], he, ?_, ?_, hm⟩
          · refine Ev.congr (fun k => by rw [upStep]) ?_
            refine ev_pos h0 ?_
            refine ev_neg hsh ?_
            refine ev_neg hl ?_
            refine ev_pos h128 ?_
            refine Ev.bind e1 ?_
            exact ev_neg he (Ev.now _)
          · refine Ev.congr (fun k => by rw [rfRound]) ?_
            refine ev_pos h0 ?_
            refine ev_neg hz ?_
            refine ev_neg hl ?_
            refine ev_pos h128 ?_
            refine Ev.bind e2 ?_
            exact ⟨0, fun k _ => by
              show (rfEnt k m.1 m.2 e (wrap64 0)).bind _ = _
              rw [rent_err k m _ he]
              rfl⟩
      · by_cases h64 : bt s a ≥ 64
        · rcases lit_ev hs h0 hm 6 with ⟨nm, vl, a', l1, l2, b1, b2, b3⟩ | ⟨e, nm, vl, a', he, l1, l2⟩
          · have hf := add_f hm.1 (by omega) b3
            refine .inl ⟨add m nm vl, a', some ⟨nm, vl, false⟩, ?_, ?_, hm.add b3, b1, b2, by simp only [Option.toList, List.length_append, List.length_singleton]; omega⟩
            · refine Ev.congr (fun k => by rw [upStep]) ?_
              refine ev_pos h0 ?_
              refine ev_neg hsh ?_
              refine ev_neg hl ?_
              refine ev_neg h128 ?_
              refine ev_pos h64 ?_
              refine Ev.bind l1 ?_
              exact ev_bind0 hf (Ev.now _)
            · refine Ev.congr (fun k => by rw [rfRound]) ?_
              refine ev_pos h0 ?_
              refine ev_neg hz ?_
              refine ev_neg hl ?_
              refine ev_neg h128 ?_
              refine ev_pos h64 ?_
              refine Ev.bind l2 ?_
              refine ev_pos rfl ?_
              refine Ev.bind (radd_ev hm.1 (by omega) b3) ?_
              exact ev_val rfl
          · refine .inr ⟨m, e, a', out ++ [⟨nm, vl, false⟩], he, ?_, ?_, hm⟩
            · refine Ev.congr (fun k => by rw [upStep]) ?_
              refine ev_pos h0 ?_
              refine ev_neg hsh ?_
              refine ev_neg hl ?_
              refine ev_neg h128 ?_
              refine ev_pos h64 ?_
              exact Ev.bind l1 (Ev.now _)
            · refine Ev.congr (fun k => by rw [rfRound]) ?_
              refine ev_pos h0 ?_
              refine ev_neg hz ?_
              refine ev_neg hl ?_
              refine ev_neg h128 ?_
              refine ev_pos h64 ?_
              refine Ev.bind l2 ?_
              exact ev_neg he (Ev.now _)
        · rcases lit_ev hs h0 hm 4 with ⟨nm, vl, a', l1, l2, b1, b2, b3⟩ | ⟨e, nm, vl, a', he, l1, l2⟩
          · refine .inl ⟨m, a', some ⟨nm, vl, decide (bt s a ≥ 16)⟩, ?_, ?_, hm, b1, b2, by simp only [Option.toList, List.length_append, List.length_singleton]; omega⟩
            · refine Ev.congr (fun k => by rw [upStep]) ?_
              refine ev_pos h0 ?_
              refine ev_neg hsh ?_
              refine ev_neg hl ?_
              refine ev_neg h128 ?_
              refine ev_neg h64 ?_
              exact Ev.bind l1 (Ev.now _)
            · refine Ev.congr (fun k => by rw [rfRound]) ?_
              refine ev_pos h0 ?_
              refine ev_neg hz ?_
              refine ev_neg hl ?_
              refine ev_neg h128 ?_
              refine ev_neg h64 ?_
              exact Ev.bind l2 (Ev.now _)
          · refine .inr ⟨m, e, a', out ++ [⟨nm, vl, decide (bt s a ≥ 16)⟩], he, ?_, ?_, hm⟩
            · refine Ev.congr (fun k => by rw [upStep]) ?_
              refine ev_pos h0 ?_
              refine ev_neg hsh ?_
              refine ev_neg hl ?_
              refine ev_neg h128 ?_
              refine ev_neg h64 ?_
              exact Ev.bind l1 (Ev.now _)
            · refine Ev.congr (fun k => by rw [rfRound]) ?_
              refine ev_pos h0 ?_
              refine ev_neg hz ?_
              refine ev_neg hl ?_
              refine ev_neg h128 ?_
              refine ev_neg h64 ?_
              exact Ev.bind l2 (Ev.now _)
def Ev2 {α : Type} (g : Nat → Nat → Option α) (r : α) : Prop := ∃ K, ∀ k q, K ≤ k → K ≤ q → g k q = some r
theorem Ev2.ev {α : Type} {g : Nat → Nat → Option α} {r : α} (h : Ev2 g r) : Ev (fun k => g k k) r := by
  obtain ⟨K, hK⟩ := h
  exact ⟨K, fun k hk => hK k k hk hk⟩
theorem fld_ev {s : ByteArray} (hs : s.size ≤ 3000) : ∀ (d : Nat) {a : Int} {m : M} {out : List FD}, 0 ≤ a → a ≤ (s.size : Int) → ((s.size : Int) - a).toNat ≤ d → Wt m → out.length ≤ 64 →
    ∃ m', Wt m' ∧ ((∃ l, Ev2 (fun k q => upFld k q (mkT m) s a out) (mkT m', .ok l) ∧ Ev2 (fun k q => rfLoop k q m.1 m.2 s a 0 out) (m'.1, m'.2, 0, l) ∧ l.length ≤ 64) ∨
      (∃ e l, e ≠ 0 ∧ Ev2 (fun k q => upFld k q (mkT m) s a out) (mkT m', .error e) ∧ Ev2 (fun k q => rfLoop k q m.1 m.2 s a 0 out) (m'.1, m'.2, e, l)))
  | d, a, m, out, h0, ha, hd, hm, ho => by
    by_cases hlt : a < (s.size : Int)
    · rcases step_ev hs h0 hlt hm out ho with ⟨m1, a1, f, ⟨K1, u1⟩, ⟨K2, u2⟩, hm1, b1, b2, b3⟩ | ⟨m1, e, a1, out1, he, ⟨K1, u1⟩, ⟨K2, u2⟩, hm1⟩
      · cases d with
        | zero => omega
        | succ d =>
          obtain ⟨m2, hm2, h⟩ := fld_ev hs d (a := a1) (m := m1) (out := out ++ f.toList) (by omega) b2 (by omega) hm1 b3
          refine ⟨m2, hm2, ?_⟩
          rcases h with ⟨l, ⟨K3, v1⟩, ⟨K4, v2⟩, hl⟩ | ⟨e, l, he, ⟨K3, v1⟩, ⟨K4, v2⟩⟩
          · refine .inl ⟨l, ⟨K1 + K3 + 1, fun k q hk hq => ?_⟩, ⟨K2 + K4 + 1, fun k q hk hq => ?_⟩, hl⟩
            · obtain ⟨q, rfl⟩ : ∃ p, q = p + 1 := ⟨q - 1, by omega⟩
              have := u1 k (by omega)
              have w := v1 k q (by omega) (by omega)
              simp only at this w
              simp only [upFld]
              rw [if_pos hlt, this, Option.bind_some]
              exact w
            · obtain ⟨q, rfl⟩ : ∃ p, q = p + 1 := ⟨q - 1, by omega⟩
              have := u2 k (by omega)
              have w := v2 k q (by omega) (by omega)
              simp only at this w
              simp only [rfLoop]
              rw [if_pos ⟨trivial, hlt⟩, this, Option.bind_some]
              exact w
          · refine .inr ⟨e, l, he, ⟨K1 + K3 + 1, fun k q hk hq => ?_⟩, ⟨K2 + K4 + 1, fun k q hk hq => ?_⟩⟩
            · obtain ⟨q, rfl⟩ : ∃ p, q = p + 1 := ⟨q - 1, by omega⟩
              have := u1 k (by omega)
              have w := v1 k q (by omega) (by omega)
              simp only at this w
              simp only [upFld]
              rw [if_pos hlt, this, Option.bind_some]
              exact w
            · obtain ⟨q, rfl⟩ : ∃ p, q = p + 1 := ⟨q - 1, by omega⟩
              have := u2 k (by omega)
              have w := v2 k q (by omega) (by omega)
              simp only at this w
              simp only [rfLoop]
              rw [if_pos ⟨trivial, hlt⟩, this, Option.bind_some]
              exact w
      · refine ⟨m1, hm1, .inr ⟨e, out1, he, ⟨K1 + 1, fun k q hk hq => ?_⟩, ⟨K2 + 2, fun k q hk hq => ?_⟩⟩⟩
        · obtain ⟨q, rfl⟩ : ∃ p, q = p + 1 := ⟨q - 1, by omega⟩
          have := u1 k (by omega)
          simp only at this
          simp only [upFld]
          rw [if_pos hlt, this, Option.bind_some]
        · obtain ⟨q, rfl⟩ : ∃ p, q = p + 2 := ⟨q - 2, by omega⟩
          have := u2 k (by omega)
          simp only at this
          simp only [rfLoop]
          rw [if_pos ⟨trivial, hlt⟩, this, Option.bind_some]
          rw [if_neg (fun h => he h.1)]
    · refine ⟨m, hm, .inl ⟨out, ⟨1, fun k q hk hq => ?_⟩, ⟨1, fun k q hk hq => ?_⟩, ho⟩⟩
      · obtain ⟨q, rfl⟩ : ∃ p, q = p + 1 := ⟨q - 1, by omega⟩
        simp only [upFld]
        rw [if_neg hlt]
      · obtain ⟨q, rfl⟩ : ∃ p, q = p + 1 := ⟨q - 1, by omega⟩
        simp only [rfLoop]
        rw [if_neg (fun h => hlt h.2)]
theorem read_ev {s : ByteArray} (hs : s.size ≤ 3000) {m : M} (hm : Wt m) (down : Bool) :
    ∃ l e m' down', Ev (fun k => unpack_Decoder_Read.f k ⟨mkT m, down⟩ s) (l, e, ⟨mkT m', down'⟩) ∧ Ev (fun k => nuncioref12_Read.f k m.1 m.2 down s) (m'.1, m'.2, down', l, e) ∧ Wt m' ∧ l.length ≤ 64 ∧ (e ≠ 0 → l = []) ∧ (down' = true ↔ (down = true ∨ e ≠ 0)) ∧ (down = true → e = 8 ∧ l = [] ∧ m' = m) := by
  cases down with
  | true =>
    refine ⟨[], 8, m, true, ?_, ?_, hm, by simp, fun _ => rfl, by simp, fun _ => ⟨rfl, rfl, rfl⟩⟩
    · refine Ev.congr (fun k => by rw [unpack_Decoder_Read.f]) ?_
      exact ev_pos rfl (Ev.now _)
    · refine Ev.congr (fun k => by rw [nuncioref12_Read.f]) ?_
      exact ev_pos rfl (Ev.now _)
  | false =>
    obtain ⟨m', hm', h⟩ := fld_ev hs s.size (a := 0) (m := m) (out := []) (by omega) (by omega) (by omega) hm (by simp)
    rcases h with ⟨l, v1, v2, hl⟩ | ⟨e, l, he, v1, v2⟩
    · refine ⟨l, 0, m', false, ?_, ?_, hm', hl, fun h => absurd rfl h, by simp, fun h => by cases h⟩
      · refine Ev.congr (fun k => by rw [unpack_Decoder_Read.f]) ?_
        refine ev_neg (show ¬ (false = true) by decide) ?_
        exact Ev.bind v1.ev (Ev.now _)
      · refine Ev.congr (fun k => by rw [nuncioref12_Read.f]) ?_
        refine ev_neg (show ¬ (false = true) by decide) ?_
        refine Ev.bind v2.ev ?_
        exact ev_pos rfl (Ev.now _)
    · refine ⟨[], e, m', true, ?_, ?_, hm', by simp, fun _ => rfl, by simp [he], fun h => by cases h⟩
      · refine Ev.congr (fun k => by rw [unpack_Decoder_Read.f]) ?_
        refine ev_neg (show ¬ (false = true) by decide) ?_
        exact Ev.bind v1.ev (Ev.now _)
      · refine Ev.congr (fun k => by rw [nuncioref12_Read.f]) ?_
        refine ev_neg (show ¬ (false = true) by decide) ?_
        refine Ev.bind v2.ev ?_
        exact ev_neg he (Ev.now _)
end Go.Proofs.YtfkdocmhbmameaaDoor.Pure
