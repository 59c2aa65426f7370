/- Any bytes are encoded to just the document's, and take as many as Size tells: for any text. -/
import Derived.Test.YtadnfcodaoflfaaMinex10
import Derived.Test.YtadnfcodaoflfaaMinex9
import Derived.Test.YtadnfcodaoflfaaMinex8
import Derived.Test.YtadnfcodaoflfaaLHuffR
import Derived.Test.YtadnfcodaoflfaaLHuffD
namespace Go.Proofs.Ytadnfcodaoflfaa.Pure
open Go.RowKit Go.Proofs.Ytadnfcodaoflfaa.Mine Go.Proofs.YtadnfcodaoflfaaW.PrintWords Go.Proofs.YtadnfcodaoflfaaW.PrintLast Go.Proofs.YtadnfcodaoflfaaW.PrintMore
set_option linter.unusedVariables false

theorem codesL_length' : codesL.length = 257 := by decide +kernel
theorem codes_all' : ∀ k : Fin 257, rd codesL ((k.val : Nat) : Int) = ((hcCode k.val : Nat) : Int) := by decide +kernel
/-- Bits as letters 0 and 1. -/
def chars (l : List Bool) : List Int := l.map fun b => 48 + (b.toNat : Int)
theorem chars_bytes (l : List Bool) : Bytes (chars l) := by
  intro x hx
  obtain ⟨b, _, rfl⟩ := List.mem_map.1 hx
  cases b <;> decide
theorem chars_append (a b : List Bool) : chars (a ++ b) = chars a ++ chars b := by simp [chars]
theorem chars_length (l : List Bool) : (chars l).length = l.length := by simp [chars]
theorem bits_l0 {n0 : Nat} (hn0 : n0 ≤ 64) : ∀ d i v (l : List Bool), i + d = n0 → v < 1073741824 → l.length = i →
    Ev (fun k => nuncioref10_Bits.l0 k ((v : Nat) : Int) (n0 : Int) (strOfNums (chars l)) (i : Int)) (strOfNums (chars (bN d v ++ l)))
  | 0, i, v, l, hd, hv, hl => by
    refine Ev.step (f := fun _ => some (strOfNums (chars l))) (fun k => ?_) (Ev.now _)
    simp only [nuncioref10_Bits.l0]
    rw [if_neg (by omega)]
  | d + 1, i, v, l, hd, hv, hl => by
    have ih := bits_l0 hn0 d (i + 1) (v / 2) ((v % 2 == 1) :: l) (by omega) (by omega) (by simp [hl])
    have e : bN d (v / 2) ++ (v % 2 == 1) :: l = bN (d + 1) v ++ l := by rw [bN_add d 1, bN_one, List.append_assoc]; rfl
    rw [e] at ih
    have hm : v % 2 = 0 ∨ v % 2 = 1 := by omega
    have e2 : strOfNums [(IntKind.u64.wrap (48 + (Int.tmod (v : Int) 2))) % 256] ++ strOfNums (chars l) = strOfNums (chars ((v % 2 == 1) :: l)) := by
      apply bytesOf_inj
      have hb : Bytes [(IntKind.u64.wrap (48 + (Int.tmod (v : Int) 2))) % 256] := Bytes.cons (by omega) (by omega) Bytes.nil
      rw [bytesOf_append, bytesOf_str hb, bytesOf_str (chars_bytes _), bytesOf_str (chars_bytes _), tmod_pos (a := (v : Int)) _ (by omega), wu64_id (n := 48 + (v : Int) % 2) (by omega) (by omega)]
      show [(48 + (v : Int) % 2) % 256] ++ chars l = (48 + (((v % 2 == 1).toNat : Nat) : Int)) :: chars l
      rw [bit_toNat, show (48 + (v : Int) % 2) % 256 = 48 + ((v % 2 : Nat) : Int) by omega]
      rfl
    refine Ev.step (fun k => ?_) ih
    simp only [nuncioref10_Bits.l0]
    rw [if_pos (by omega), Option.bind_some, if_pos (by rw [strOfNums_size, strOfNums_size, chars_length]; simp; omega), e2, tdiv_pos (a := (v : Int)) _ (by omega), wu64_id (n := (v : Int) / 2) (by omega) (by omega), w64 (x := (i : Int) + 1) (by omega) (by omega)]
    rfl
theorem bits_str (n v : Nat) (hn : n ≤ 64) (hv : v < 1073741824) : Ev (fun k => nuncioref10_Bits.f k ((v : Nat) : Int) (n : Int)) (strOfNums (chars (bN n v))) := by
  have h := bits_l0 hn n 0 v [] (by omega) hv rfl
  rw [List.append_nil] at h
  exact h
/-- The last bits, filled up. -/
theorem ref_l2 {l o : List Int} (hl : IsEnc l o) (B : List Bool) (hB : ∀ p out, p < 8 → Bytes out → ub out = B ++ List.replicate p true → out = o) : ∀ d h (out : List Int) X, h + d = 8 → X < 2 ^ h → 0 < h → Bytes out → out.length ≤ 100000000 → 0 < d →
    (∃ p, p + d < 8 ∧ ub out ++ bN h X = B ++ List.replicate p true) → Ev (fun k => nuncioref10_Encode.l2 k out (X : Int) (h : Int)) (strOfNums o)
  | 0, _, _, _, _, _, _, _, _, h0, _ => by omega
  | d + 1, h, out, X, hd, hX, h0, hb, hlen, _, ⟨p, hp, hbits⟩ => by
    have hq : 2 ^ h ≤ 2 ^ 7 := pow_le_pow (by omega)
    have e1 : ub out ++ bN (h + 1) (2 * X + 1) = B ++ List.replicate (p + 1) true := by
      have := bN_snoc h X true
      rw [show true.toNat = 1 from rfl] at this
      rw [this, ← List.append_assoc, hbits, List.append_assoc, List.replicate_succ']
    have ex : Unit → wrap64 ((wrap64 ((X : Int) * 2)) + 1) = ((2 * X + 1 : Nat) : Int) := fun _ => by
      rw [w64 (x := (X : Int) * 2) (by omega) (by omega), w64 (x := (X : Int) * 2 + 1) (by omega) (by omega)]; omega
    by_cases h8 : h + 1 = 8
    · have hfull : out ++ [((2 * X + 1 : Nat) : Int)] = o := by
        refine hB (p + 1) _ (by omega) (hb.append (Bytes.cons (by omega) (by omega) Bytes.nil)) ?_
        rw [ub_append, ub_one, Int.toNat_natCast, ← h8, e1]
      have hend : Ev (fun k => nuncioref10_Encode.l2 k o ((2 * X + 1 : Nat) : Int) 8) (strOfNums o) := by
        refine Ev.step (f := fun k => nuncioref10_Encode.j4 k o ((2 * X + 1 : Nat) : Int) 8 false) (fun k => ?_) (Ev.step (f := fun _ => some (strOfNums o)) (fun k => ?_) (Ev.now _))
        · simp only [nuncioref10_Encode.l2]
          rw [if_pos (by omega)]
          rfl
        · simp only [nuncioref10_Encode.j4]
          rw [if_neg (by simp)]
      refine Ev.step (f := fun k => nuncioref10_Encode.j4 k out (X : Int) (h : Int) true) (fun k => ?_) (Ev.step (fun k => ?_) hend)
      · simp only [nuncioref10_Encode.l2]
        rw [if_pos (by omega), show decide ((h : Int) < 8) = true from decide_eq_true (by omega)]
      · simp only [nuncioref10_Encode.j4]
        rw [if_pos trivial, w64 (x := (h : Int) + 1) (by omega) (by omega), if_pos (by omega), if_pos (by omega), ex (), show ((2 * X + 1 : Nat) : Int) % 256 = ((2 * X + 1 : Nat) : Int) by omega, hfull, show (h : Int) + 1 = 8 by omega]
    · have ih := ref_l2 hl B hB d (h + 1) out (2 * X + 1) (by omega) (by rw [Nat.pow_succ]; omega) (by omega) hb hlen (by omega) ⟨p + 1, by omega, e1⟩
      refine Ev.step (f := fun k => nuncioref10_Encode.j4 k out (X : Int) (h : Int) true) (fun k => ?_) (Ev.step (fun k => ?_) ih)
      · simp only [nuncioref10_Encode.l2]
        rw [if_pos (by omega), show decide ((h : Int) < 8) = true from decide_eq_true (by omega)]
      · simp only [nuncioref10_Encode.j4]
        rw [if_pos trivial, w64 (x := (h : Int) + 1) (by omega) (by omega), if_neg (by omega), ex ()]
        rfl
/-- One code's bits. -/
theorem ref_l1 (s : ByteArray) (i : Nat) (bs : List Bool) (hbs : bs.length ≤ 64) (r : ByteArray) : ∀ (rest : List Bool) (j : Nat) (out : List Int) (X h : Nat), bs.drop j = rest → j ≤ bs.length → h < 8 → X < 2 ^ h → Bytes out → out.length + rest.length ≤ 100000000 →
    (∀ (out' : List Int) (X' h' : Nat), h' < 8 → X' < 2 ^ h' → Bytes out' → ub out' ++ bN h' X' = ub out ++ bN h X ++ rest → Ev (fun k => nuncioref10_Encode.l0 k s codesL out' (X' : Int) (h' : Int) (wrap64 ((i : Int) + 1))) r) →
    Ev (fun k => nuncioref10_Encode.l1 k s codesL out (X : Int) (h : Int) (i : Int) (strOfNums (chars bs)) (j : Int)) r
  | [], j, out, X, h, hd, hj, h8, hX, hb, hlen, H => by
    have hj2 : bs.length ≤ j := List.drop_eq_nil_iff.1 hd
    refine Ev.step (fun k => ?_) (H out X h h8 hX hb (by rw [List.append_nil]))
    simp only [nuncioref10_Encode.l1]
    rw [if_neg (by rw [strOfNums_size, chars_length]; omega)]
  | b :: rest, j, out, X, h, hd, hj, h8, hX, hb, hlen, H => by
    have hjl : j < bs.length := by
      refine Nat.lt_of_not_le fun hh => ?_
      rw [List.drop_eq_nil_of_le hh] at hd
      cases hd
    have hd2 := List.drop_eq_getElem_cons hjl
    rw [hd] at hd2
    obtain ⟨hb1, hd3⟩ := List.cons.inj hd2
    rw [List.length_cons] at hlen
    have hbt : bt (strOfNums (chars bs)) (j : Int) = 48 + (b.toNat : Int) := by
      rw [bt_eq, bytesOf_str (chars_bytes _), rd_nat (by rw [chars_length]; exact hjl)]
      unfold chars
      rw [List.getElem_map, ← hb1]
    have hbn : b.toNat < 2 := by cases b <;> decide
    have hq : 2 ^ h ≤ 2 ^ 7 := pow_le_pow (by omega)
    have ex : Unit → wrap64 ((wrap64 ((wrap64 ((X : Int) * 2)) + (wrap64 (48 + (b.toNat : Int))))) - 48) = ((2 * X + b.toNat : Nat) : Int) := fun _ => by
      rw [w64 (x := (X : Int) * 2) (by omega) (by omega), w64 (x := 48 + (b.toNat : Int)) (by omega) (by omega), w64 (x := (X : Int) * 2 + (48 + (b.toNat : Int))) (by omega) (by omega), w64 (x := (X : Int) * 2 + (48 + (b.toNat : Int)) - 48) (by omega) (by omega)]; omega
    have ej : Unit → wrap64 ((j : Int) + 1) = ((j + 1 : Nat) : Int) := fun _ => by rw [w64 (by omega) (by omega)]; rfl
    have hX2 : 2 * X + b.toNat < 2 ^ (h + 1) := by rw [Nat.pow_succ]; omega
    have hsn := bN_snoc h X b
    by_cases h7 : h + 1 = 8
    · have hX8 : 2 * X + b.toNat < 256 := by rw [h7] at hX2; exact hX2
      have ih := ref_l1 s i bs hbs r rest (j + 1) (out ++ [((2 * X + b.toNat : Nat) : Int)]) 0 0 hd3.symm (by omega) (by omega) (by decide) (hb.append (Bytes.cons (by omega) (by omega) Bytes.nil)) (by simp; omega) (fun out' X' h' q1 q2 q3 q4 => H out' X' h' q1 q2 q3 (by
        rw [q4, ub_append, ub_one, Int.toNat_natCast, ← h7, hsn]
        simp [bN]))
      refine Ev.step (fun k => ?_) ih
      simp only [nuncioref10_Encode.l1]
      rw [if_pos (by rw [strOfNums_size, chars_length]; omega), if_pos (by omega), w64 (x := (h : Int) + 1) (by omega) (by omega), if_pos (by omega), if_pos (by omega), hbt, ex (), ej (), show ((2 * X + b.toNat : Nat) : Int) % 256 = ((2 * X + b.toNat : Nat) : Int) by omega]
      rfl
    · have ih := ref_l1 s i bs hbs r rest (j + 1) out (2 * X + b.toNat) (h + 1) hd3.symm (by omega) (by omega) hX2 hb (by omega) (fun out' X' h' q1 q2 q3 q4 => H out' X' h' q1 q2 q3 (by
        rw [q4, hsn]
        simp))
      refine Ev.step (fun k => ?_) ih
      simp only [nuncioref10_Encode.l1]
      rw [if_pos (by rw [strOfNums_size, chars_length]; omega), if_pos (by omega), w64 (x := (h : Int) + 1) (by omega) (by omega), if_neg (by omega), hbt, ex (), ej ()]
      rfl
theorem ref_l0 {s : ByteArray} (hs : s.size ≤ 1000000) {o : List Int} (ho : IsEnc (bytesOf s) o) : ∀ d i (out : List Int) (X h : Nat), i + d = s.size + 1 → h < 8 → X < 2 ^ h → Bytes out → ub out ++ bN h X = eb ((bytesOf s).take i) →
    Ev (fun k => nuncioref10_Encode.l0 k s codesL out (X : Int) (h : Int) (i : Int)) (strOfNums o)
  | 0, i, out, X, h, hd, h8, hX, hb, hbits => by
    have hlen : (bytesOf s).length = s.size := bytesOf_length s
    have hbd := (eb_length_bounds (bytesOf_bytes s)).2
    rw [List.take_of_length_le (by omega)] at hbits
    have hl := congrArg List.length hbits
    rw [List.length_append, ub_length, bN_length] at hl
    have hU : ∀ p out, p < 8 → Bytes out → ub out = eb (bytesOf s) ++ List.replicate p true → out = o := fun p out' hp hb' e => IsEnc.uniq ⟨hb', p, hp, e⟩ ho
    have hout : Ev (fun k => nuncioref10_Encode.l2 k out (X : Int) (h : Int)) (strOfNums o) := by
      by_cases h0 : h = 0
      · subst h0
        have e : out = o := hU 0 out (by omega) hb (by rw [← hbits]; simp [bN])
        rw [e]
        refine Ev.step (f := fun k => nuncioref10_Encode.j4 k o (X : Int) 0 false) (fun k => ?_) (Ev.step (f := fun _ => some (strOfNums o)) (fun k => ?_) (Ev.now _))
        · simp only [nuncioref10_Encode.l2]
          rw [if_neg (by omega)]
          rfl
        · simp only [nuncioref10_Encode.j4]
          rw [if_neg (by simp)]
      · exact ref_l2 ho (eb (bytesOf s)) hU (8 - h) h out X (by omega) hX (by omega) hb (by omega) (by omega) ⟨0, by omega, by rw [hbits]; simp⟩
    refine Ev.step (fun k => ?_) hout
    simp only [nuncioref10_Encode.l0]
    rw [if_neg (by omega)]
  | d + 1, i, out, X, h, hd, h8, hX, hb, hbits => by
    have hlen : (bytesOf s).length = s.size := bytesOf_length s
    have hbd := (eb_length_bounds ((bytesOf_bytes s).take i)).2
    have htl : ((bytesOf s).take i).length ≤ 1000000 := by rw [List.length_take]; omega
    have hl := congrArg List.length hbits
    rw [List.length_append, ub_length, bN_length] at hl
    by_cases hi : i < s.size
    · have hi2 : i < (bytesOf s).length := by omega
      have hby := bytesOf_bytes s _ (List.getElem_mem hi2)
      obtain ⟨c, hc⟩ : ∃ c : Nat, (bytesOf s)[i] = (c : Int) := ⟨((bytesOf s)[i]).toNat, by omega⟩
      have hc256 : c < 256 := by omega
      have hL := hcLen_bounds c (by omega)
      have hC := hcCode_lt c (by omega)
      have hC2 : 2 ^ hcLen c ≤ 2 ^ 30 := pow_le_pow hL.2
      have hbits2 := bits_str (hcLen c) (hcCode c) (by omega) (by omega)
      have hcbl : (cb c).length ≤ 64 := by rw [cb_length]; omega
      have hl1 := ref_l1 s i (cb c) hcbl (strOfNums o) (cb c) 0 out X h (by rw [List.drop_zero]) (by omega) h8 hX hb (by rw [cb_length]; omega) (fun out' X' h' q1 q2 q3 q4 => by
        have := ref_l0 hs ho d (i + 1) out' X' h' (by omega) q1 q2 q3 (by rw [q4, hbits, eb_take hi2, hc, Int.toNat_natCast])
        refine Ev.congr (fun k => ?_) this
        rw [w64 (x := (i : Int) + 1) (by omega) (by omega)]
        rfl)
      have hj1 : Ev (fun k => nuncioref10_Encode.j1 k s codesL out (X : Int) (h : Int) (i : Int) (strOfNums (chars (cb c)))) (strOfNums o) := by
        refine Ev.step (fun k => ?_) hl1
        simp only [nuncioref10_Encode.j1]
        rfl
      have hbt : bt s (i : Int) = (c : Int) := by rw [bt_eq, rd_nat hi2, hc]
      refine Ev.step (fun k => ?_) (Ev.bind hbits2 hj1)
      simp only [nuncioref10_Encode.l0]
      rw [if_pos (by omega), if_pos (by omega), if_pos (by omega), hbt, if_pos (by omega), if_pos (by rw [codesL_length']; omega), w64 (x := (c : Int)) (by omega) (by omega), length_f (by omega) (by omega), Option.bind_some, Int.toNat_natCast, codes_all' ⟨c, by omega⟩]
    · have hl1 := ref_l1 s i [] (by simp) (strOfNums o) [] 0 out X h rfl (by simp) h8 hX hb (by simp; omega) (fun out' X' h' q1 q2 q3 q4 => by
        have := ref_l0 hs ho d (i + 1) out' X' h' (by omega) q1 q2 q3 (by rw [q4, hbits, List.append_nil, List.take_of_length_le (by omega), List.take_of_length_le (by omega)])
        refine Ev.congr (fun k => ?_) this
        rw [w64 (x := (i : Int) + 1) (by omega) (by omega)]
        rfl)
      have hj1 : Ev (fun k => nuncioref10_Encode.j1 k s codesL out (X : Int) (h : Int) (i : Int) (⟨#[]⟩ : ByteArray)) (strOfNums o) := by
        refine Ev.step (fun k => ?_) hl1
        simp only [nuncioref10_Encode.j1]
        rfl
      refine Ev.step (fun k => ?_) hj1
      simp only [nuncioref10_Encode.l0]
      rw [if_pos (by omega), if_neg (by omega)]
theorem ref_encode_f (s : ByteArray) (hs : s.size ≤ 1000000) {o : List Int} (ho : IsEnc (bytesOf s) o) : Ev (fun k => nuncioref10_Encode.f k s) (strOfNums o) := by
  have h := ref_l0 hs ho (s.size + 1) 0 [] 0 0 (by omega) (by omega) (by decide) Bytes.nil rfl
  refine Ev.congr (fun k => by unfold nuncioref10_Encode.f; rfl) (Ev.bind codes_f ?_)
  exact h
theorem HuffEncodes : nunciolaw10_HuffEncodes.Pure := by
  intro s _
  refine Ev.rounds ?_
  refine Ev.congr (fun k => by unfold nunciolaw10_HuffEncodes.f; rfl) (Ev.bind awake10 (ev_pos rfl ?_))
  by_cases h1 : (s.size : Int) > 2000
  · exact ev_pos h1 (Ev.now _)
  refine ev_neg h1 ?_
  obtain ⟨o, ho, hE⟩ := encode_f s (by omega)
  refine Ev.bind hE ?_
  refine Ev.bind (ref_encode_f s (by omega) ho) ?_
  refine ev_pos rfl ?_
  refine Ev.bind (size_f s (by omega)) ?_
  refine ev_val ?_
  rw [strOfNums_size, ho.length]
  exact beq_self_eq_true _
end Go.Proofs.Ytadnfcodaoflfaa.Pure
