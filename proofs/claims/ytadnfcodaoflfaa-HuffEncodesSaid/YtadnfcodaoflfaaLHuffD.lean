/- What huff.Decode answers: by the plain laws. -/
import Derived.Test.YtadnfcodaoflfaaMinex5
import Derived.Test.YtadnfcodaoflfaaMinex6
import Derived.Test.YtadnfcodaoflfaaLHuffP
namespace Go.Proofs.Ytadnfcodaoflfaa.Pure
open Go.RowKit Go.Proofs.Ytadnfcodaoflfaa.Mine Go.Proofs.YtadnfcodaoflfaaW.PrintWords Go.Proofs.YtadnfcodaoflfaaW.PrintLast Go.Proofs.YtadnfcodaoflfaaW.PrintMore
set_option linter.unusedVariables false

theorem bN_get : ∀ (n v i : Nat), i < n → (bN n v)[i]? = some (v / 2 ^ (n - 1 - i) % 2 == 1)
  | 0, _, _, h => by omega
  | n + 1, v, 0, _ => by rw [bN]; simp
  | n + 1, v, i + 1, h => by
    rw [bN, List.getElem?_cons_succ, bN_get n v i (by omega), show n + 1 - 1 - (i + 1) = n - 1 - i by omega]
theorem ub_get : ∀ (l : List Int) (i : Nat), i < 8 * l.length → (ub l)[i]? = some ((l.getD (i / 8) 0).toNat / 2 ^ (7 - i % 8) % 2 == 1)
  | [], i, h => by simp at h
  | x :: l, i, h => by
    rw [ub_cons]
    by_cases h8 : i < 8
    · rw [List.getElem?_append_left (by rw [bN_length]; exact h8), bN_get 8 _ i h8, show i / 8 = 0 by omega, show i % 8 = i by omega]
      rfl
    · rw [List.getElem?_append_right (by rw [bN_length]; omega), bN_length, ub_get l (i - 8) (by rw [List.length_cons] at h; omega), show i / 8 = (i - 8) / 8 + 1 by omega, show (i - 8) % 8 = i % 8 by omega]
      rfl
theorem ub_drop {l : List Int} {i : Nat} (h : i < 8 * l.length) : (ub l).drop i = ((l.getD (i / 8) 0).toNat / 2 ^ (7 - i % 8) % 2 == 1) :: (ub l).drop (i + 1) := by
  have hl : i < (ub l).length := by rw [ub_length]; exact h
  have hg := ub_get l i h
  rw [List.getElem?_eq_getElem hl] at hg
  rw [List.drop_eq_getElem_cons hl, Option.some.inj hg]
theorem and7 {i : Nat} (h : i < 4611686018427387904) : Go.bits .and .i64 (i : Int) 7 = ((i % 8 : Nat) : Int) := by
  show IntKind.i64.wrap ((BitVec.ofInt 64 (i : Int) &&& BitVec.ofInt 64 (7 : Int)).toNat : Int) = _
  have e7 := ofInt_u64 7 (by omega)
  rw [show ((7 : Nat) : Int) = 7 from rfl] at e7
  rw [BitVec.toNat_and, ofInt_u64 i (by omega), e7, nat_mask3, i64_w, w64 (by omega) (by omega)]
theorem bit_toNat (y : Nat) : (y % 2 == 1).toNat = y % 2 := by
  have : y % 2 = 0 ∨ y % 2 = 1 := by omega
  rcases this with h | h <;> rw [h] <;> rfl
theorem the_bit {s : ByteArray} {i : Nat} (h : i < 8 * s.size) (hs : s.size ≤ 1000000) :
    Go.bits .and .u32 ((shr .u8 (bt s ((i : Int) / 8)) (wrap64 (7 - (Go.bits .and .i64 (i : Int) 7)))) % 4294967296) 1 = ((((bytesOf s).getD (i / 8) 0).toNat / 2 ^ (7 - i % 8) % 2 == 1).toNat : Int) := by
  have hlen : (bytesOf s).length = s.size := bytesOf_length s
  have hi : i / 8 < (bytesOf s).length := by omega
  have hb := bytesOf_bytes s _ (List.getElem_mem hi)
  obtain ⟨x, hx⟩ : ∃ x : Nat, (bytesOf s)[i / 8] = (x : Int) := ⟨((bytesOf s)[i / 8]).toNat, by omega⟩
  have e1 : (bytesOf s).getD (i / 8) 0 = (x : Int) := by rw [List.getD_eq_getElem?_getD, List.getElem?_eq_getElem hi, Option.getD_some, hx]
  have e2 : bt s ((i : Int) / 8) = (x : Int) := by rw [bt_eq, show (i : Int) / 8 = ((i / 8 : Nat) : Int) by omega, rd_nat hi, hx]
  rw [e1, e2, and7 (by omega), w64 (by omega) (by omega), show (7 : Int) - ((i % 8 : Nat) : Int) = ((7 - i % 8 : Nat) : Int) by omega, shr64 (by simp [IntKind.bits]; omega), Int.toNat_natCast, bit_toNat]
  have hle : x / 2 ^ (7 - i % 8) ≤ x := Nat.div_le_self _ _
  generalize x / 2 ^ (7 - i % 8) = y at *
  rw [show ((y : Nat) : Int) % 4294967296 = (y : Int) by omega, u32_and _ _ (by omega) (by omega) (by omega) (by omega), Int.toNat_natCast, show (1 : Int).toNat = 1 from rfl, nat_mask1]
theorem or_bit {code : Nat} (b : Bool) (h : code < 536870912) : Go.bits .or .u32 (((code : Int) * 2) % 4294967296) ((b.toNat : Nat) : Int) = ((2 * code + b.toNat : Nat) : Int) := by
  have hb : b.toNat < 2 := by cases b <;> decide
  rw [show ((code : Int) * 2) % 4294967296 = ((2 * code : Nat) : Int) by omega, u32_or _ _ (by omega) (by omega) (by omega) (by omega), Int.toNat_natCast, Int.toNat_natCast, nat_join 1 _ _ (by omega) (by omega)]
/-- The answer. -/
def res : Option (List Int) → ByteArray × Int
  | none => (⟨#[]⟩, 91)
  | some y => (strOfNums y, 0)
theorem nil_toList : (⟨#[]⟩ : ByteArray).toList = [] := by rw [toList_eq]
theorem hcFirst_le : ∀ n, n < 31 → hcFirst n ≤ 1073741824 := by decide +kernel
theorem dec_l0 {s : ByteArray} (hs : s.size ≤ 1000000) : ∀ (bs : List Bool) (i code n : Nat) (ones : Bool) (out : List Int), bs = (ub (bytesOf s)).drop i → i + bs.length = 8 * s.size → Pend code n → out.length ≤ i →
    Ev (fun k => huff_Decode.l0 k s out (code : Int) (n : Int) ones ((8 * s.size : Nat) : Int) (i : Int)) (res (dec bs code n ones out))
  | [], i, code, n, ones, out, hbs, hi, hP, ho => by
    refine Ev.step (f := fun _ => some (res (dec [] code n ones out))) (fun k => ?_) (Ev.now _)
    have hi2 : i = 8 * s.size := by simpa using hi
    simp only [huff_Decode.l0]
    rw [if_neg (by omega), dec]
    by_cases h7 : (n : Int) > 7
    · rw [if_pos h7, if_pos (.inl (by omega))]; rfl
    · rw [if_neg h7]
      cases ones
      · rw [if_neg (by simp), if_pos (.inr rfl)]; rfl
      · rw [if_pos rfl, if_neg (by intro h_; rcases h_ with h_ | h_; omega; cases h_)]; rfl
  | b :: bs, i, code, n, ones, out, hbs, hi, hP, ho => by
    have hlen : (bytesOf s).length = s.size := bytesOf_length s
    rw [List.length_cons] at hi
    have hd := ub_drop (l := bytesOf s) (i := i) (by omega)
    rw [hd] at hbs
    obtain ⟨hb, hbs'⟩ := List.cons.inj hbs
    have hbit := the_bit (s := s) (i := i) (by omega) hs
    rw [← hb] at hbit
    have hcode : code < 536870912 := by
      have h1 := hP.1
      have h2 : 2 ^ n ≤ 2 ^ 29 := pow_le_pow hP.2.1
      omega
    have hor := or_bit b hcode
    have hn29 := hP.2.1
    have hlt := hP.lt b
    have hlt2 : 2 ^ (n + 1) ≤ 2 ^ 30 := pow_le_pow (by omega)
    have hbn : b.toNat < 2 := by cases b <;> decide
    -- the round's first part
    refine Ev.step (f := fun k => huff_Decode.j1 k s out ((2 * code + b.toNat : Nat) : Int) ((n + 1 : Nat) : Int) (ones && b) ((8 * s.size : Nat) : Int) (i : Int)) (fun k => ?_) ?_
    · have hone : (((b.toNat : Nat) : Int) == 1) = b := by cases b <;> rfl
      simp only [huff_Decode.l0]
      rw [if_pos (by omega), if_pos (by omega), if_pos (by omega), if_pos (by rw [and7 (by omega), w64 (by omega) (by omega)]; omega), hbit, hor, w64 (by omega) (by omega), hone]
      cases ones
      · rw [if_neg (by simp), Bool.false_and]; rfl
      · rw [if_pos rfl, Bool.true_and]; rfl
    -- is it a code's end
    rw [dec]
    have hl0 : ∀ (k : Nat), wrap64 ((i : Int) + 1) = ((i + 1 : Nat) : Int) := fun _ => by rw [w64 (by omega) (by omega)]; rfl
    have e1 : hb1 ((n + 1 : Nat) : Int) = ((hcFirst (n + 1) : Nat) : Int) := by unfold hb1; rw [Int.toNat_natCast]
    have e2 : hb2 ((n + 1 : Nat) : Int) = ((hcCount (n + 1) : Nat) : Int) := by unfold hb2; rw [Int.toNat_natCast]
    have e3 : hb3 ((n + 1 : Nat) : Int) = ((hcBegin (n + 1) : Nat) : Int) := by unfold hb3; rw [Int.toNat_natCast]
    have hc32 := hcCount_le (n + 1) (by omega)
    have hf30 := hcFirst_le (n + 1) (by omega)
    cases hk : look (n + 1) (2 * code + b.toNat) with
    | none =>
      have ih := dec_l0 hs bs (i + 1) (2 * code + b.toNat) (n + 1) (ones && b) out hbs' (by omega) (hP.step b hk) (by omega)
      have hj2 : Ev (fun k => huff_Decode.j2 k s out ((2 * code + b.toNat : Nat) : Int) ((n + 1 : Nat) : Int) (ones && b) ((8 * s.size : Nat) : Int) (i : Int) true) (res (dec bs (2 * code + b.toNat) (n + 1) (ones && b) out)) := by
        refine Ev.step (fun k => ?_) ih
        simp only [huff_Decode.j2]
        rw [if_pos trivial, hl0 k]
      refine Ev.step (fun k => ?_) hj2
      simp only [huff_Decode.j1]
      by_cases h5 : ((n + 1 : Nat) : Int) < 5
      · rw [if_pos h5]
      · rw [if_neg h5, if_pos (by omega), if_pos (by omega), e1, e2]
        have hf := hP.first b (by omega)
        rw [if_neg (by omega)]
        have hcnt : hcCount (n + 1) ≤ 2 * code + b.toNat - hcFirst (n + 1) := by
          refine Nat.le_of_not_lt fun hh => ?_
          unfold look at hk
          rw [if_pos ⟨by omega, hf, hh⟩] at hk
          cases hk
        rw [show decide ((((2 * code + b.toNat : Nat) : Int) - ((hcFirst (n + 1) : Nat) : Int)) % 4294967296 ≥ ((hcCount (n + 1) : Nat) : Int) % 4294967296) = true from decide_eq_true (by omega)]
    | some sg =>
      obtain ⟨h5, hf, hcnt, hsg, hidx, hs257, hL, hC⟩ := look_some (by omega) hk
      simp only
      have e4 : hb4 ((hcBegin (n + 1) + (2 * code + b.toNat - hcFirst (n + 1)) : Nat) : Int) = ((sg : Nat) : Int) := by unfold hb4; rw [Int.toNat_natCast, ← hsg]
      have e5 : wrap64 (hb3 ((n + 1 : Nat) : Int) + (((2 * code + b.toNat : Nat) : Int) - hb1 ((n + 1 : Nat) : Int)) % 4294967296) = ((hcBegin (n + 1) + (2 * code + b.toNat - hcFirst (n + 1)) : Nat) : Int) := by
        rw [e1, e3, w64 (by omega) (by omega)]
        omega
      have hj2 : Ev (fun k => huff_Decode.j2 k s out ((2 * code + b.toNat : Nat) : Int) ((n + 1 : Nat) : Int) (ones && b) ((8 * s.size : Nat) : Int) (i : Int) false) (res (if sg = 256 then none else dec bs 0 0 true (out ++ [(sg : Int)]))) := by
        by_cases h256 : sg = 256
        · rw [if_pos h256]
          refine Ev.step (f := fun _ => some (res none)) (fun k => ?_) (Ev.now _)
          simp only [huff_Decode.j2]
          rw [if_neg (by simp), if_pos (by omega), if_pos (by omega), e5, if_pos (by omega), if_pos (by omega), e4, if_pos (by omega)]
          rfl
        · rw [if_neg h256]
          have ih := dec_l0 hs bs (i + 1) 0 0 true (out ++ [(sg : Int)]) hbs' (by omega) Pend.zero (by simp; omega)
          refine Ev.step (fun k => ?_) ih
          simp only [huff_Decode.j2]
          rw [if_neg (by simp), if_pos (by omega), if_pos (by omega), e5, if_pos (by omega), if_pos (by omega), e4, if_neg (by omega), if_pos (by omega), hl0 k, show ((sg : Nat) : Int) % 256 = ((sg : Nat) : Int) by omega]
          rfl
      refine Ev.step (fun k => ?_) hj2
      simp only [huff_Decode.j1]
      rw [if_neg (by omega), if_pos (by omega), if_pos (by omega), e1, e2, if_neg (by omega)]
      rw [show decide ((((2 * code + b.toNat : Nat) : Int) - ((hcFirst (n + 1) : Nat) : Int)) % 4294967296 ≥ ((hcCount (n + 1) : Nat) : Int) % 4294967296) = false from decide_eq_false (by omega)]
theorem decode_f (s : ByteArray) (hs : s.size ≤ 1000000) : Ev (fun k => huff_Decode.f k s) (res (dec (ub (bytesOf s)) 0 0 true [])) := by
  have hlen : (bytesOf s).length = s.size := bytesOf_length s
  have h := dec_l0 hs (ub (bytesOf s)) 0 0 0 true [] (by rw [List.drop_zero]) (by rw [ub_length]; omega) Pend.zero (by simp)
  refine Ev.congr (fun k => ?_) h
  unfold huff_Decode.f huff_made.f
  rw [Option.bind_some, w64 (by omega) (by omega)]
  rfl
theorem awake10 : Ev (fun k => nunciolaw10_awake.f k) true := Ev.of nunciolaw10_awake.mono (k := 60) (by decide +kernel)
/-- What was encoded is decoded as it was. -/
theorem dec_of_enc {s o : List Int} (hs : Bytes s) (h : IsEnc s o) : dec (ub o) 0 0 true [] = some s := by
  obtain ⟨_, p, hp, e⟩ := h
  rw [e, dec_back s hs p (by omega), if_neg (by omega)]
/-- What is decoded was encoded as just these bytes. -/
theorem enc_of_dec {t y : List Int} (ht : Bytes t) (h : dec (ub t) 0 0 true [] = some y) : Bytes y ∧ IsEnc y t := by
  obtain ⟨z, p, h1, h2, h3, h4⟩ := dec_sound (ub t) 0 0 true [] y Pend.zero rfl h
  rw [List.nil_append] at h1
  subst h1
  exact ⟨h3, ht, p, h2, h4⟩
end Go.Proofs.Ytadnfcodaoflfaa.Pure
