/- The walks and the plain laws that the rows come to: merged out of this repo's texts. -/
import Derived.Test.YtfkdocmhbmameaaDoorProg
import Derived.Below
import Derived.Deep.Draws
import Derived.Deep.AppendLies
import Derived.Maps.AppendAt
import Derived.OwnWalk
import Derived.Laws.BytesArg
import Derived.Laws.MakeOwn
import Derived.Laws.OwnMore
import Derived.Deep.OwnRows
import Derived.Tactics
import Derived.Lib.ConvBytes
import Derived.Laws.Slices
import Derived.WalkKit
import Derived.KernelRfl
import Derived.RowKit3
import Derived.Deep.LoopGhost
import Derived.Deep.QuietTactic
import Derived.BigQuiet
import Derived.WideLaws
import Derived.Deep.DeepCutAuto
import Derived.Deep.CutBlock
import Derived.Deep.RegionHeld3
import Derived.Laws.Rows
import Derived.Lib.AppendStr
import Derived.ArgAppend
import Derived.Laws.IdiomCopy
import Derived.RowKit
import Derived.OrdersHeld
import Derived.Laws.BitsLemmas
import Derived.Laws.StructEq
import Derived.Laws.CopyOwn
import Derived.SizedLaws
import Derived.ChangeSlices
import Derived.Deep.Slices
import Derived.Lib.SmallJoins
import Derived.Lib.OthersKept
import Derived.Lib.AppendZerosOnto
import Derived.WalkSpells
import Derived.Laws.BitsAllLaws
import Derived.Test.YtfkdocmhbmameaaDoorCA1
import Derived.Test.YtfkdocmhbmameaaDoorCA2
import Derived.Test.YtfkdocmhbmameaaDoorCA3
import Derived.Test.YtfkdocmhbmameaaDoorCA5
import Derived.Test.YtfkdocmhbmameaaDoorCA6
import Derived.Test.YtfkdocmhbmameaaDoorCA7
import Derived.Test.YtfkdocmhbmameaaDoorCA15
import Derived.Test.YtfkdocmhbmameaaDoorCA16
import Derived.Test.YtfkdocmhbmameaaDoorCA25
import Derived.Test.YtfkdocmhbmameaaDoorCA26
namespace Go.Proofs.YtfkdocmhbmameaaDoor.Pure
open Go.RowKit Go.Proofs.YtfkdocmhbmameaaDoor.Mine Go.Proofs.YtfkdocmhbmameaaDoorW.PrintWords Go.Proofs.YtfkdocmhbmameaaDoorW.PrintLast Go.Proofs.YtfkdocmhbmameaaDoorW.PrintMore
set_option linter.unusedVariables false
theorem length_all : ∀ k : Fin 257, nuncioref10_Length.f ((k.val : Nat) : Int) = some ((hcLen k.val : Nat) : Int) := by decide +kernel
theorem length_f {c : Int} (h0 : 0 ≤ c) (h1 : c < 257) : nuncioref10_Length.f c = some ((hcLen c.toNat : Nat) : Int) := by
  have := length_all ⟨c.toNat, by omega⟩
  simp only at this
  rwa [show ((c.toNat : Nat) : Int) = c by omega] at this
def codesL : List Int := hcCodeL.map fun n => ((n : Nat) : Int)
theorem codes_f : Ev (fun k => nuncioref10_Codes.f k) codesL := Ev.of nuncioref10_Codes.mono (k := 7600) (by decide +kernel)
end Go.Proofs.YtfkdocmhbmameaaDoor.Pure
namespace Go.Proofs.YtfkdocmhbmameaaDoor.Pure
open Go.RowKit Go.Proofs.YtfkdocmhbmameaaDoor.Mine Go.Proofs.YtfkdocmhbmameaaDoorW.PrintWords Go.Proofs.YtfkdocmhbmameaaDoorW.PrintLast Go.Proofs.YtfkdocmhbmameaaDoorW.PrintMore
set_option linter.unusedVariables false
theorem bN_get : ∀ (n v i : Nat), i < n → (bN n v)[i]? = some (v / 2 ^ (n - 1 - i) % 2 == 1)
  | 0, _, _, h => by omega
  | n + 1, v, 0, _ => by rw [bN]; simp
  | n + 1, v, i + 1, h => by
    rw [bN, List.getElem?_cons_succ, bN_get n v i (by omega), show n + 1 - 1 - (i + 1) = n - 1 - i by omega]
theorem ub_get : ∀ (l : List Int) (i : Nat), i < 8 * l.length → (ub l)[i]? = some ((l.getD (i / 8) 0).toNat / 2 ^ (7 - i % 8) % 2 == 1)
  | [], i, h => by simp at h
  | x :: l, i, h => by
    rw [ub_cons]
    by_cases h8 : i < 8
    · rw [List.getElem?_append_left (by rw [bN_length]; exact h8), bN_get 8 _ i h8, show i / 8 = 0 by omega, show i % 8 = i by omega]
      rfl
    · rw [List.getElem?_append_right (by rw [bN_length]; omega), bN_length, ub_get l (i - 8) (by rw [List.length_cons] at h; omega), show i / 8 = (i - 8) / 8 + 1 by omega, show (i - 8) % 8 = i % 8 by omega]
      rfl
theorem ub_drop {l : List Int} {i : Nat} (h : i < 8 * l.length) : (ub l).drop i = ((l.getD (i / 8) 0).toNat / 2 ^ (7 - i % 8) % 2 == 1) :: (ub l).drop (i + 1) := by
  have hl : i < (ub l).length := by rw [ub_length]; exact h
  have hg := ub_get l i h
  rw [List.getElem?_eq_getElem hl] at hg
  rw [List.drop_eq_getElem_cons hl, Option.some.inj hg]
theorem and7 {i : Nat} (h : i < 4611686018427387904) : Go.bits .and .i64 (i : Int) 7 = ((i % 8 : Nat) : Int) := by
  show IntKind.i64.wrap ((BitVec.ofInt 64 (i : Int) &&& BitVec.ofInt 64 (7 : Int)).toNat : Int) = _
  have e7 := ofInt_u64 7 (by omega)
  rw [show ((7 : Nat) : Int) = 7 from rfl] at e7
  rw [BitVec.toNat_and, ofInt_u64 i (by omega), e7, nat_mask3, i64_w, w64 (by omega) (by omega)]
theorem bit_toNat (y : Nat) : (y % 2 == 1).toNat = y % 2 := by
  have : y % 2 = 0 ∨ y % 2 = 1 := by omega
  rcases this with h | h <;> rw [h] <;> rfl
theorem the_bit {s : ByteArray} {i : Nat} (h : i < 8 * s.size) (hs : s.size ≤ 1000000) :
    Go.bits .and .u32 ((shr .u8 (bt s ((i : Int) / 8)) (wrap64 (7 - (Go.bits .and .i64 (i : Int) 7)))) % 4294967296) 1 = ((((bytesOf s).getD (i / 8) 0).toNat / 2 ^ (7 - i % 8) % 2 == 1).toNat : Int) := by
  have hlen : (bytesOf s).length = s.size := bytesOf_length s
  have hi : i / 8 < (bytesOf s).length := by omega
  have hb := bytesOf_bytes s _ (List.getElem_mem hi)
  obtain ⟨x, hx⟩ : ∃ x : Nat, (bytesOf s)[i / 8] = (x : Int) := ⟨((bytesOf s)[i / 8]).toNat, by omega⟩
  have e1 : (bytesOf s).getD (i / 8) 0 = (x : Int) := by rw [List.getD_eq_getElem?_getD, List.getElem?_eq_getElem hi, Option.getD_some, hx]
  have e2 : bt s ((i : Int) / 8) = (x : Int) := by rw [bt_eq, show (i : Int) / 8 = ((i / 8 : Nat) : Int) by omega, rd_nat hi, hx]
  rw [e1, e2, and7 (by omega), w64 (by omega) (by omega), show (7 : Int) - ((i % 8 : Nat) : Int) = ((7 - i % 8 : Nat) : Int) by omega, shr64 (by simp [IntKind.bits]; omega), Int.toNat_natCast, bit_toNat]
  have hle : x / 2 ^ (7 - i % 8) ≤ x := Nat.div_le_self _ _
  generalize x / 2 ^ (7 - i % 8) = y at *
  rw [show ((y : Nat) : Int) % 4294967296 = (y : Int) by omega, u32_and _ _ (by omega) (by omega) (by omega) (by omega), Int.toNat_natCast, show (1 : Int).toNat = 1 from rfl, nat_mask1]
theorem or_bit {code : Nat} (b : Bool) (h : code < 536870912) : Go.bits .or .u32 (((code : Int) * 2) % 4294967296) ((b.toNat : Nat) : Int) = ((2 * code + b.toNat : Nat) : Int) := by
  have hb : b.toNat < 2 := by cases b <;> decide
  rw [show ((code : Int) * 2) % 4294967296 = ((2 * code : Nat) : Int) by omega, u32_or _ _ (by omega) (by omega) (by omega) (by omega), Int.toNat_natCast, Int.toNat_natCast, nat_join 1 _ _ (by omega) (by omega)]
def res : Option (List Int) → ByteArray × Int
  | none => (⟨#[]⟩, 91)
  | some y => (strOfNums y, 0)
theorem hcFirst_le : ∀ n, n < 31 → hcFirst n ≤ 1073741824 := by decide +kernel
theorem dec_l0 {s : ByteArray} (hs : s.size ≤ 1000000) : ∀ (bs : List Bool) (i code n : Nat) (ones : Bool) (out : List Int), bs = (ub (bytesOf s)).drop i → i + bs.length = 8 * s.size → Pend code n → out.length ≤ i →
    Ev (fun k => huff_Decode.l0 k s out (code : Int) (n : Int) ones ((8 * s.size : Nat) : Int) (i : Int)) (res (dec bs code n ones out))
  | [], i, code, n, ones, out, hbs, hi, hP, ho => by
    refine Ev.step (f := fun _ => some (res (dec [] code n ones out))) (fun k => ?_) (Ev.now _)
    have hi2 : i = 8 * s.size := by simpa using hi
    simp only [huff_Decode.l0]
    rw [if_neg (by omega), dec]
    by_cases h7 : (n : Int) > 7
    · rw [if_pos h7, if_pos (.inl (by omega))]; rfl
    · rw [if_neg h7]
      cases ones
      · rw [if_neg (by simp), if_pos (.inr rfl)]; rfl
      · rw [if_pos rfl, if_neg (by intro h_; rcases h_ with h_ | h_; omega; cases h_)]; rfl
  | b :: bs, i, code, n, ones, out, hbs, hi, hP, ho => by
    have hlen : (bytesOf s).length = s.size := bytesOf_length s
    rw [List.length_cons] at hi
    have hd := ub_drop (l := bytesOf s) (i := i) (by omega)
    rw [hd] at hbs
    obtain ⟨hb, hbs'⟩ := List.cons.inj hbs
    have hbit := the_bit (s := s) (i := i) (by omega) hs
    rw [← hb] at hbit
    have hcode : code < 536870912 := by
      have h1 := hP.1
      have h2 : 2 ^ n ≤ 2 ^ 29 := pow_le_pow hP.2.1
      omega
    have hor := or_bit b hcode
    have hn29 := hP.2.1
    have hlt := hP.lt b
    have hlt2 : 2 ^ (n + 1) ≤ 2 ^ 30 := pow_le_pow (by omega)
    have hbn : b.toNat < 2 := by cases b <;> decide
    refine Ev.step (f := fun k => huff_Decode.j1 k s out ((2 * code + b.toNat : Nat) : Int) ((n + 1 : Nat) : Int) (ones && b) ((8 * s.size : Nat) : Int) (i : Int)) (fun k => ?_) ?_
    · have hone : (((b.toNat : Nat) : Int) == 1) = b := by cases b <;> rfl
      simp only [huff_Decode.l0]
      rw [if_pos (by omega), if_pos (by omega), if_pos (by omega), if_pos (by rw [and7 (by omega), w64 (by omega) (by omega)]; omega), hbit, hor, w64 (by omega) (by omega), hone]
      cases ones
      · rw [if_neg (by simp), Bool.false_and]; rfl
      · rw [if_pos rfl, Bool.true_and]; rfl
    rw [dec]
    have hl0 : ∀ (k : Nat), wrap64 ((i : Int) + 1) = ((i + 1 : Nat) : Int) := fun _ => by rw [w64 (by omega) (by omega)]; rfl
    have e1 : hb1 ((n + 1 : Nat) : Int) = ((hcFirst (n + 1) : Nat) : Int) := by unfold hb1; rw [Int.toNat_natCast]
    have e2 : hb2 ((n + 1 : Nat) : Int) = ((hcCount (n + 1) : Nat) : Int) := by unfold hb2; rw [Int.toNat_natCast]
    have e3 : hb3 ((n + 1 : Nat) : Int) = ((hcBegin (n + 1) : Nat) : Int) := by unfold hb3; rw [Int.toNat_natCast]
    have hc32 := hcCount_le (n + 1) (by omega)
    have hf30 := hcFirst_le (n + 1) (by omega)
    cases hk : look (n + 1) (2 * code + b.toNat) with
    | none =>
      have ih := dec_l0 hs bs (i + 1) (2 * code + b.toNat) (n + 1) (ones && b) out hbs' (by omega) (hP.step b hk) (by omega)
      have hj2 : Ev (fun k => huff_Decode.j2 k s out ((2 * code + b.toNat : Nat) : Int) ((n + 1 : Nat) : Int) (ones && b) ((8 * s.size : Nat) : Int) (i : Int) true) (res (dec bs (2 * code + b.toNat) (n + 1) (ones && b) out)) := by
        refine Ev.step (fun k => ?_) ih
        simp only [huff_Decode.j2]
        rw [if_pos trivial, hl0 k]
      refine Ev.step (fun k => ?_) hj2
      simp only [huff_Decode.j1]
      by_cases h5 : ((n + 1 : Nat) : Int) < 5
      · rw [if_pos h5]
      · rw [if_neg h5, if_pos (by omega), if_pos (by omega), e1, e2]
        have hf := hP.first b (by omega)
        rw [if_neg (by omega)]
        have hcnt : hcCount (n + 1) ≤ 2 * code + b.toNat - hcFirst (n + 1) := by
          refine Nat.le_of_not_lt fun hh => ?_
          unfold look at hk
          rw [if_pos ⟨by omega, hf, hh⟩] at hk
          cases hk
        rw [show decide ((((2 * code + b.toNat : Nat) : Int) - ((hcFirst (n + 1) : Nat) : Int)) % 4294967296 ≥ ((hcCount (n + 1) : Nat) : Int) % 4294967296) = true from decide_eq_true (by omega)]
    | some sg =>
      obtain ⟨h5, hf, hcnt, hsg, hidx, hs257, hL, hC⟩ := look_some (by omega) hk
      simp only
      have e4 : hb4 ((hcBegin (n + 1) + (2 * code + b.toNat - hcFirst (n + 1)) : Nat) : Int) = ((sg : Nat) : Int) := by unfold hb4; rw [Int.toNat_natCast, ← hsg]
      have e5 : wrap64 (hb3 ((n + 1 : Nat) : Int) + (((2 * code + b.toNat : Nat) : Int) - hb1 ((n + 1 : Nat) : Int)) % 4294967296) = ((hcBegin (n + 1) + (2 * code + b.toNat - hcFirst (n + 1)) : Nat) : Int) := by
        rw [e1, e3, w64 (by omega) (by omega)]
        omega
      have hj2 : Ev (fun k => huff_Decode.j2 k s out ((2 * code + b.toNat : Nat) : Int) ((n + 1 : Nat) : Int) (ones && b) ((8 * s.size : Nat) : Int) (i : Int) false) (res (if sg = 256 then none else dec bs 0 0 true (out ++ [(sg : Int)]))) := by
        by_cases h256 : sg = 256
        · rw [if_pos h256]
          refine Ev.step (f := fun _ => some (res none)) (fun k => ?_) (Ev.now _)
          simp only [huff_Decode.j2]
          rw [if_neg (by simp), if_pos (by omega), if_pos (by omega), e5, if_pos (by omega), if_pos (by omega), e4, if_pos (by omega)]
          rfl
        · rw [if_neg h256]
          have ih := dec_l0 hs bs (i + 1) 0 0 true (out ++ [(sg : Int)]) hbs' (by omega) Pend.zero (by simp; omega)
          refine Ev.step (fun k => ?_) ih
          simp only [huff_Decode.j2]
          rw [if_neg (by simp), if_pos (by omega), if_pos (by omega), e5, if_pos (by omega), if_pos (by omega), e4, if_neg (by omega), if_pos (by omega), hl0 k, show ((sg : Nat) : Int) % 256 = ((sg : Nat) : Int) by omega]
          rfl
      refine Ev.step (fun k => ?_) hj2
      simp only [huff_Decode.j1]
      rw [if_neg (by omega), if_pos (by omega), if_pos (by omega), e1, e2, if_neg (by omega)]
      rw [show decide ((((2 * code + b.toNat : Nat) : Int) - ((hcFirst (n + 1) : Nat) : Int)) % 4294967296 ≥ ((hcCount (n + 1) : Nat) : Int) % 4294967296) = false from decide_eq_false (by omega)]
theorem decode_f (s : ByteArray) (hs : s.size ≤ 1000000) : Ev (fun k => huff_Decode.f k s) (res (dec (ub (bytesOf s)) 0 0 true [])) := by
  have hlen : (bytesOf s).length = s.size := bytesOf_length s
  have h := dec_l0 hs (ub (bytesOf s)) 0 0 0 true [] (by rw [List.drop_zero]) (by rw [ub_length]; omega) Pend.zero (by simp)
  refine Ev.congr (fun k => ?_) h
  unfold huff_Decode.f huff_made.f
  rw [Option.bind_some, w64 (by omega) (by omega)]
  rfl
theorem dec_of_enc {s o : List Int} (hs : Bytes s) (h : IsEnc s o) : dec (ub o) 0 0 true [] = some s := by
  obtain ⟨_, p, hp, e⟩ := h
  rw [e, dec_back s hs p (by omega), if_neg (by omega)]
theorem enc_of_dec {t y : List Int} (ht : Bytes t) (h : dec (ub t) 0 0 true [] = some y) : Bytes y ∧ IsEnc y t := by
  obtain ⟨z, p, h1, h2, h3, h4⟩ := dec_sound (ub t) 0 0 true [] y Pend.zero rfl h
  rw [List.nil_append] at h1
  subst h1
  exact ⟨h3, ht, p, h2, h4⟩
end Go.Proofs.YtfkdocmhbmameaaDoor.Pure
namespace Go.Proofs.YtfkdocmhbmameaaDoor.Pure
open Go.RowKit Go.Proofs.YtfkdocmhbmameaaDoor.Mine Go.Proofs.YtfkdocmhbmameaaDoorW.PrintWords Go.Proofs.YtfkdocmhbmameaaDoorW.PrintLast Go.Proofs.YtfkdocmhbmameaaDoorW.PrintMore
set_option linter.unusedVariables false
theorem codesL_length' : codesL.length = 257 := by decide +kernel
theorem codes_all' : ∀ k : Fin 257, rd codesL ((k.val : Nat) : Int) = ((hcCode k.val : Nat) : Int) := by decide +kernel
theorem ref_l3 (out : List Int) {n : Nat} (hn : n ≤ 7) : ∀ d j c : Nat, j + d = n → c < 2 ^ d →
    Ev (fun k => nuncioref10_Decode.l3 k out (c : Int) (n : Int) (j : Int)) (res (if c + 1 = 2 ^ d then some out else none))
  | 0, j, c, hd, hc => by
    refine Ev.step (f := fun _ => some (res (some out))) (fun k => ?_) ?_
    · simp only [nuncioref10_Decode.l3]
      rw [if_neg (by omega)]
      rfl
    · rw [if_pos (by omega)]; exact Ev.now _
  | d + 1, j, c, hd, hc => by
    have hq : 2 ^ (d + 1) ≤ 2 ^ 7 := pow_le_pow (by omega)
    rw [Nat.pow_succ] at hc ⊢
    by_cases h2 : c % 2 = 0
    · refine Ev.step (f := fun _ => some (res none)) (fun k => ?_) ?_
      · simp only [nuncioref10_Decode.l3]
        rw [if_pos (by omega), tmod_pos _ (by omega), if_pos (by omega)]
        rfl
      · rw [if_neg (by omega)]; exact Ev.now _
    · have ih := ref_l3 out hn d (j + 1) (c / 2) (by omega) (by omega)
      have e : (c / 2 + 1 = 2 ^ d) ↔ (c + 1 = 2 ^ d * 2) := by omega
      rw [show (if c + 1 = 2 ^ d * 2 then some out else none) = (if c / 2 + 1 = 2 ^ d then some out else none) by simp only [e]]
      refine Ev.step (fun k => ?_) ih
      rw [Nat.pow_succ] at hq
      simp only [nuncioref10_Decode.l3]
      rw [if_pos (by omega), tmod_pos _ (by omega), if_neg (by omega), tdiv_pos _ (by omega), wu64_id (n := (c : Int) / 2) (by omega) (by omega), w64 (x := (j : Int) + 1) (by omega) (by omega)]
      rfl
theorem ref_l2 (s : ByteArray) {out : List Int} {code n i : Nat} (hout : out.length ≤ 8000000) (hn : n < 31) (r : ByteArray × Int)
    (H0 : look n code = none → Ev (fun k => nuncioref10_Decode.l0 k s codesL out (code : Int) (n : Int) (wrap64 ((i : Int) + 1))) r)
    (H1 : look n code = some 256 → r = res none)
    (H2 : ∀ sg, look n code = some sg → sg ≠ 256 → Ev (fun k => nuncioref10_Decode.l0 k s codesL (out ++ [(sg : Int)]) 0 0 (wrap64 ((i : Int) + 1))) r) :
    ∀ d c : Nat, c + d = 257 → (∀ q, q < c → look n code ≠ some q) → Ev (fun k => nuncioref10_Decode.l2 k s codesL out (code : Int) (n : Int) (i : Int) (c : Int)) r
  | 0, c, hd, hc => by
    have hnone : look n code = none := by
      cases e : look n code with
      | none => rfl
      | some q => exact absurd e (hc q (by have := (look_some hn e).2.2.2.2.2.1; omega))
    refine Ev.step (fun k => ?_) (H0 hnone)
    simp only [nuncioref10_Decode.l2]
    rw [if_neg (by omega)]
  | d + 1, c, hd, hc => by
    have hc257 : c < 257 := by omega
    have hb := hcLen_bounds c hc257
    by_cases hk : look n code = some c
    · obtain ⟨_, _, _, _, _, _, hL, hC⟩ := look_some hn hk
      have hj3 : Ev (fun k => nuncioref10_Decode.j3 k s codesL out (code : Int) (n : Int) (i : Int) (c : Int) true) r := by
        by_cases h256 : c = 256
        · subst h256
          refine Ev.step (f := fun _ => some r) (fun k => ?_) (Ev.now _)
          simp only [nuncioref10_Decode.j3]
          rw [if_pos trivial, if_pos (by rfl), H1 hk]
          rfl
        · refine Ev.step (fun k => ?_) (H2 c hk h256)
          simp only [nuncioref10_Decode.j3]
          rw [if_pos trivial, if_neg (by omega), if_pos (by omega), show (c : Int) % 256 = (c : Int) by omega]
      refine Ev.step (fun k => ?_) hj3
      simp only [nuncioref10_Decode.l2]
      rw [if_pos (by omega), length_f (by omega) (by omega), Option.bind_some, Int.toNat_natCast, if_pos (by omega), if_pos (by omega), if_pos (by rw [codesL_length']; omega), codes_all' ⟨c, hc257⟩, hC, beq_self_eq_true]
    · have ih := ref_l2 s hout hn r H0 H1 H2 d (c + 1) (by omega) (fun q hq => by
        by_cases e : q = c
        · subst e; exact hk
        · exact hc q (by omega))
      have hj3 : Ev (fun k => nuncioref10_Decode.j3 k s codesL out (code : Int) (n : Int) (i : Int) (c : Int) false) r := by
        refine Ev.step (fun k => ?_) ih
        simp only [nuncioref10_Decode.j3]
        rw [if_neg (by simp), w64 (x := (c : Int) + 1) (by omega) (by omega)]
        rfl
      refine Ev.step (fun k => ?_) hj3
      simp only [nuncioref10_Decode.l2]
      rw [if_pos (by omega), length_f (by omega) (by omega), Option.bind_some, Int.toNat_natCast]
      by_cases hL : hcLen c = n
      · rw [if_pos (by omega), if_pos (by omega), if_pos (by rw [codesL_length']; omega), codes_all' ⟨c, hc257⟩]
        have hne : (((hcCode c : Nat) : Int) == ((code : Nat) : Int)) = false := by
          rw [beq_eq_false_iff_ne]
          intro e
          have e2 : hcCode c = code := by omega
          have := look_of c hc257
          rw [hL, e2] at this
          exact hk this
        rw [hne]
      · rw [if_neg (by omega)]
theorem ref_l1 (s : ByteArray) {out : List Int} {code n i : Nat} (hcode : code < 1073741824) (hn : n ≤ 29) (r : ByteArray × Int) : ∀ d j y : Nat, j + d = 7 → y < 256 →
    Ev (fun k => nuncioref10_Decode.l2 k s codesL out ((2 * code + y / 2 ^ d % 2 : Nat) : Int) ((n + 1 : Nat) : Int) (i : Int) 0) r →
    Ev (fun k => nuncioref10_Decode.l1 k s codesL out (code : Int) (n : Int) (i : Int) (y : Int) (j : Int)) r
  | 0, j, y, hd, hy, H => by
    refine Ev.step (fun k => ?_) H
    simp only [nuncioref10_Decode.l1]
    rw [if_neg (by omega), w64 (x := (n : Int) + 1) (by omega) (by omega), if_neg (by omega), tmod_pos _ (by omega), wu64_id (n := (code : Int) * 2) (by omega) (by omega), wu64_id (n := (y : Int) % 2) (by omega) (by omega), wu64_id (n := (code : Int) * 2 + (y : Int) % 2) (by omega) (by omega), Nat.pow_zero, Nat.div_one, show (code : Int) * 2 + (y : Int) % 2 = ((2 * code + y % 2 : Nat) : Int) by omega]
    rfl
  | d + 1, j, y, hd, hy, H => by
    have ih := ref_l1 s hcode hn r d (j + 1) (y / 2) (by omega) (by omega) (by rw [show y / 2 / 2 ^ d = y / 2 ^ (d + 1) by rw [Nat.div_div_eq_div_mul, Nat.pow_succ, Nat.mul_comm]]; exact H)
    refine Ev.step (fun k => ?_) ih
    simp only [nuncioref10_Decode.l1]
    rw [if_pos (by omega), tdiv_pos _ (by omega), show (y : Int) / 2 % 256 = ((y / 2 : Nat) : Int) by omega, w64 (x := (j : Int) + 1) (by omega) (by omega)]
    rfl
set_option maxHeartbeats 1000000 in
theorem ref_l0 {s : ByteArray} (hs : s.size ≤ 1000000) : ∀ (bs : List Bool) (i code n : Nat) (ones : Bool) (out : List Int), bs = (ub (bytesOf s)).drop i → i + bs.length = 8 * s.size → Pend code n → ones = (code + 1 == 2 ^ n) → out.length ≤ i →
    Ev (fun k => nuncioref10_Decode.l0 k s codesL out (code : Int) (n : Int) (i : Int)) (res (dec bs code n ones out))
  | [], i, code, n, ones, out, hbs, hi, hP, hones, ho => by
    have hi2 : i = 8 * s.size := by simpa using hi
    have e8 : Unit → wrap64 (8 * (s.size : Int)) = 8 * (s.size : Int) := fun _ => w64 (by omega) (by omega)
    rw [dec]
    by_cases h7 : n > 7
    · rw [if_pos (.inl h7)]
      refine Ev.step (f := fun _ => some (res none)) (fun k => ?_) (Ev.now _)
      simp only [nuncioref10_Decode.l0]
      rw [e8 (), if_neg (by omega), if_pos (by omega)]
      rfl
    · have h3 := ref_l3 out (n := n) (by omega) n 0 code (by omega) hP.1
      have e : (if n > 7 ∨ ones = false then none else some out) = (if code + 1 = 2 ^ n then some out else none) := by
        rw [hones]
        by_cases hc : code + 1 = 2 ^ n
        · rw [if_pos hc, if_neg (by rw [beq_iff_eq.2 hc]; intro h_; rcases h_ with h_ | h_; omega; cases h_)]
        · rw [if_neg hc, if_pos (.inr (beq_eq_false_iff_ne.2 hc))]
      rw [e]
      refine Ev.step (fun k => ?_) h3
      simp only [nuncioref10_Decode.l0]
      rw [e8 (), if_neg (by omega), if_neg (by omega)]
      rfl
  | b :: bs, i, code, n, ones, out, hbs, hi, hP, hones, ho => by
    have hlen : (bytesOf s).length = s.size := bytesOf_length s
    rw [List.length_cons] at hi
    have hd := ub_drop (l := bytesOf s) (i := i) (by omega)
    rw [hd] at hbs
    obtain ⟨hb, hbs'⟩ := List.cons.inj hbs
    have hi8 : i / 8 < (bytesOf s).length := by omega
    have hby := bytesOf_bytes s _ (List.getElem_mem hi8)
    obtain ⟨x, hx⟩ : ∃ x : Nat, (bytesOf s)[i / 8] = (x : Int) := ⟨((bytesOf s)[i / 8]).toNat, by omega⟩
    have e1 : (bytesOf s).getD (i / 8) 0 = (x : Int) := by rw [List.getD_eq_getElem?_getD, List.getElem?_eq_getElem hi8, Option.getD_some, hx]
    rw [e1, Int.toNat_natCast] at hb
    have hcode : code < 536870912 := by
      have h1 := hP.1
      have h2 : 2 ^ n ≤ 2 ^ 29 := pow_le_pow hP.2.1
      omega
    have hn29 := hP.2.1
    have hbn : b.toNat = x / 2 ^ (7 - i % 8) % 2 := by rw [hb, bit_toNat]
    have e8 : Unit → wrap64 (8 * (s.size : Int)) = 8 * (s.size : Int) := fun _ => w64 (by omega) (by omega)
    have ei : Unit → wrap64 ((i : Int) + 1) = ((i + 1 : Nat) : Int) := fun _ => by rw [w64 (by omega) (by omega)]; rfl
    have hones' : (ones && b) = (2 * code + b.toNat + 1 == 2 ^ (n + 1)) := by
      rw [hones, Nat.pow_succ, Bool.eq_iff_iff]
      generalize 2 ^ n = q
      clear hbn hb
      cases b
      · rw [Bool.and_false, beq_iff_eq, show false.toNat = 0 from rfl]
        constructor
        · intro h_; cases h_
        · intro h_; omega
      · rw [Bool.and_true, beq_iff_eq, beq_iff_eq, show true.toNat = 1 from rfl]
        constructor <;> intro h_ <;> omega
    have hl2 : Ev (fun k => nuncioref10_Decode.l2 k s codesL out ((2 * code + b.toNat : Nat) : Int) ((n + 1 : Nat) : Int) (i : Int) 0) (res (dec (b :: bs) code n ones out)) := by
      refine ref_l2 s (by omega) (by omega) _ (fun h => ?_) (fun h => ?_) (fun sg h h256 => ?_) 257 0 (by omega) (fun q hq => by omega)
      · rw [dec, h, ei ()]
        exact ref_l0 hs bs (i + 1) _ (n + 1) (ones && b) out hbs' (by omega) (hP.step b h) hones' (by omega)
      · rw [dec, h]
        simp only
        rw [if_pos trivial]
      · rw [dec, h, ei ()]
        simp only
        rw [if_neg h256]
        exact ref_l0 hs bs (i + 1) 0 0 true (out ++ [(sg : Int)]) hbs' (by omega) Pend.zero rfl (by simp; omega)
    have hl1 := ref_l1 s (out := out) (code := code) (i := i) (by omega) hn29 _ (7 - i % 8) (i % 8) x (by omega) (by omega) (by rw [← hbn]; exact hl2)
    refine Ev.step (fun k => ?_) hl1
    have e2 : bt s (((i / 8 : Nat)) : Int) = (x : Int) := by rw [bt_eq, rd_nat hi8, hx]
    simp only [nuncioref10_Decode.l0]
    rw [e8 (), if_pos (by omega), tdiv_pos (a := (i : Int)) _ (by omega), w64 (x := (i : Int) / 8) (by omega) (by omega), if_pos (by omega), if_pos (by omega), tmod_pos (a := (i : Int)) _ (by omega), show (i : Int) / 8 = ((i / 8 : Nat) : Int) by omega, e2, show (i : Int) % 8 = ((i % 8 : Nat) : Int) by omega]
theorem ref_decode_f (s : ByteArray) (hs : s.size ≤ 1000000) : Ev (fun k => nuncioref10_Decode.f k s) (res (dec (ub (bytesOf s)) 0 0 true [])) := by
  have hlen : (bytesOf s).length = s.size := bytesOf_length s
  have h := ref_l0 hs (ub (bytesOf s)) 0 0 0 true [] (by rw [List.drop_zero]) (by rw [ub_length]; omega) Pend.zero rfl (by simp)
  refine Ev.congr (fun k => by unfold nuncioref10_Decode.f; rfl) (Ev.bind codes_f ?_)
  exact h
end Go.Proofs.YtfkdocmhbmameaaDoor.Pure
namespace Go.Proofs.YtfkdocmhbmameaaDoor.Pure
open Go.RowKit Go.Proofs.YtfkdocmhbmameaaDoor.Mine Go.Proofs.YtfkdocmhbmameaaDoorW.PrintWords Go.Proofs.YtfkdocmhbmameaaDoorW.PrintLast Go.Proofs.YtfkdocmhbmameaaDoorW.PrintMore
theorem part_yes {s : ByteArray} {at_ n : Int} (hs : s.size ≤ 4611686018427387904) (h0 : 0 ≤ at_) (h1 : 0 ≤ n) (h2 : at_ + n ≤ s.size) : num_Part.f s at_ n = some (s.extract at_.toNat (at_ + n).toNat, true) := by
  have e1 : wrap64 ((s.size : Int) - at_) = (s.size : Int) - at_ := w64 (by omega) (by omega)
  have e2 : wrap64 (at_ + n) = at_ + n := w64 (by omega) (by omega)
  unfold num_Part.f
  rw [e1, e2, if_neg (by omega), if_neg (by omega), if_neg (by omega), if_neg (by omega), if_pos (by omega), if_pos (by omega), if_pos (by omega)]
theorem part_no {s : ByteArray} {at_ n : Int} (hs : s.size ≤ 4611686018427387904) (h : at_ < 0 ∨ n < 0 ∨ (s.size : Int) < at_ + n) : num_Part.f s at_ n = some ((⟨#[]⟩ : ByteArray), false) := by
  unfold num_Part.f
  by_cases h0 : at_ < 0
  · rw [if_pos h0]
  by_cases h1 : n < 0
  · rw [if_neg h0, if_pos h1]
  by_cases h2 : at_ > (s.size : Int)
  · rw [if_neg h0, if_neg h1, if_pos h2]
  have e1 : wrap64 ((s.size : Int) - at_) = (s.size : Int) - at_ := w64 (by omega) (by omega)
  rw [e1, if_neg h0, if_neg h1, if_neg h2, if_pos (by omega)]
theorem rpart_eq (s : ByteArray) (at_ n : Int) : nuncioref01_Part.f s at_ n = num_Part.f s at_ n := rfl
end Go.Proofs.YtfkdocmhbmameaaDoor.Pure
