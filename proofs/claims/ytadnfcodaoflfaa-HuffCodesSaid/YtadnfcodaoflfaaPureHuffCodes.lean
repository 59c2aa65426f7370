/- Each sign has just the document's code; no code is the beginning of another one; together they fill all there is: and what is no sign has none. -/
import Derived.Test.YtadnfcodaoflfaaMinex16
import Derived.Test.YtadnfcodaoflfaaLHuffR
import Derived.Test.YtadnfcodaoflfaaLHuffD
namespace Go.Proofs.Ytadnfcodaoflfaa.Pure
open Go.RowKit Go.Proofs.Ytadnfcodaoflfaa.Mine Go.Proofs.YtadnfcodaoflfaaW.PrintWords Go.Proofs.YtadnfcodaoflfaaW.PrintLast Go.Proofs.YtadnfcodaoflfaaW.PrintMore
set_option linter.unusedVariables false

def apartB (a b : Nat × Nat) : Bool := if a.1 ≤ b.1 then b.2 / 2 ^ (b.1 - a.1) != a.2 else a.2 / 2 ^ (a.1 - b.1) != b.2
def pfree : List (Nat × Nat) → Bool
  | [] => true
  | a :: l => l.all (apartB a) && pfree l
def codePairs : List (Nat × Nat) := hcLenL.zip hcCodeL
theorem pfree_all : pfree codePairs = true := by decide +kernel
theorem pfree_get : ∀ {l : List (Nat × Nat)}, pfree l = true → ∀ (i j : Nat) (a b : Nat × Nat), i < j → l[i]? = some a → l[j]? = some b → apartB a b = true
  | [], _, i, j, a, b, _, h, _ => by simp at h
  | x :: l, hp, 0, j + 1, a, b, _, hi, hj => by
    rw [pfree, Bool.and_eq_true] at hp
    rw [List.getElem?_cons_zero] at hi
    rw [List.getElem?_cons_succ] at hj
    obtain rfl := Option.some.inj hi
    exact List.all_eq_true.1 hp.1 b (List.mem_of_getElem? hj)
  | x :: l, hp, i + 1, j + 1, a, b, h, hi, hj => by
    rw [pfree, Bool.and_eq_true] at hp
    rw [List.getElem?_cons_succ] at hi hj
    exact pfree_get hp.2 i j a b (by omega) hi hj
theorem pairs_all : ∀ k, k < 257 → codePairs[k]? = some (hcLen k, hcCode k) := by decide +kernel
theorem apart_codes {k i : Nat} (h : k < i) (hi : i < 257) : (hcLen k ≤ hcLen i → hcCode i / 2 ^ (hcLen i - hcLen k) ≠ hcCode k) ∧ (hcLen i < hcLen k → hcCode k / 2 ^ (hcLen k - hcLen i) ≠ hcCode i) := by
  have := pfree_get pfree_all k i _ _ h (pairs_all k (by omega)) (pairs_all i hi)
  unfold apartB at this
  simp only at this
  split at this
  · exact ⟨fun _ => by simpa using this, fun _ => by omega⟩
  · exact ⟨fun _ => by omega, fun _ => by simpa using this⟩
/-- How much of all there is the codes of the first signs fill. -/
def hcS : Nat → Nat
  | 0 => 0
  | i + 1 => hcS i + 2 ^ (30 - hcLen i)
theorem hcS_le : ∀ i, hcS i ≤ i * 2 ^ 30
  | 0 => by simp [hcS]
  | i + 1 => by
    have h1 := hcS_le i
    have h2 : 2 ^ (30 - hcLen i) ≤ 2 ^ 30 := pow_le_pow (by omega)
    rw [hcS]
    omega
theorem hcS_end : hcS 257 = 1073741824 := by decide +kernel
theorem codesL_length : codesL.length = 257 := by decide +kernel
theorem codes_all : ∀ k : Fin 257, rd codesL ((k.val : Nat) : Int) = ((hcCode k.val : Nat) : Int) := by decide +kernel
theorem codes_rd {k : Nat} (h : k < 257) : rd codesL (k : Int) = ((hcCode k : Nat) : Int) := codes_all ⟨k, h⟩
theorem code_f {i : Nat} (h : i < 257) : huff_Code.f (i : Int) = some (((hcCode i : Nat) : Int), ((hcLen i : Nat) : Int)) := by
  unfold huff_Code.f hb0
  rw [if_neg (by omega), if_neg (by omega), bits_f (by omega) (by omega), Option.bind_some, Int.toNat_natCast]
theorem hcCode_small {c : Nat} (h : c < 257) : hcCode c < 1073741824 := by
  have h1 := hcCode_lt c h
  have h2 : 2 ^ hcLen c ≤ 2 ^ 30 := pow_le_pow (hcLen_bounds c h).2
  omega
theorem codes_l1 (a0 : Int) {i : Nat} (hi : i < 257) (S : Int) (H : Ev (fun k => nunciolaw10_HuffCodes.l0 k a0 codesL S (wrap64 ((i : Int) + 1))) true) : ∀ d j, j + d = i →
    Ev (fun k => nunciolaw10_HuffCodes.l1 k a0 codesL S (i : Int) ((hcCode i : Nat) : Int) ((hcLen i : Nat) : Int) (j : Int)) true
  | 0, j, hd => by
    refine Ev.step (fun k => ?_) H
    simp only [nunciolaw10_HuffCodes.l1]
    rw [if_neg (by omega)]
  | d + 1, j, hd => by
    have ih := codes_l1 a0 hi S H d (j + 1) (by omega)
    refine Ev.step (fun k => ?_) ih
    obtain ⟨h1, h2⟩ := apart_codes (k := j) (i := i) (by omega) hi
    have b1 := hcLen_bounds j (by omega)
    have b2 := hcLen_bounds i hi
    have c1 := hcCode_small (c := j) (by omega)
    have c2 := hcCode_small hi
    simp only [nunciolaw10_HuffCodes.l1]
    rw [if_pos (by omega), if_pos (by omega), if_pos (by rw [codesL_length]; omega), length_f (by omega) (by omega), Option.bind_some, codes_rd (by omega), Int.toNat_natCast, wu64_id (n := ((hcCode i : Nat) : Int)) (by omega) (by omega), w64 (x := (j : Int) + 1) (by omega) (by omega)]
    rw [w64 (x := ((hcLen i : Nat) : Int) - ((hcLen j : Nat) : Int)) (by omega) (by omega), w64 (x := ((hcLen j : Nat) : Int) - ((hcLen i : Nat) : Int)) (by omega) (by omega)]
    by_cases hle : hcLen j ≤ hcLen i
    · rw [if_pos (by omega), if_pos (by omega), show ((hcLen i : Nat) : Int) - ((hcLen j : Nat) : Int) = ((hcLen i - hcLen j : Nat) : Int) by omega, shr64 (by simp [IntKind.bits]; omega), if_neg (by have := h1 hle; omega), if_neg (by omega)]
      rfl
    · rw [if_neg (by omega), if_pos (by omega), if_pos (by omega), show ((hcLen j : Nat) : Int) - ((hcLen i : Nat) : Int) = ((hcLen j - hcLen i : Nat) : Int) by omega, shr64 (by simp [IntKind.bits]; omega), if_neg (by have := h2 (by omega); omega)]
      rfl
theorem codes_l0 (a0 : Int) : ∀ d i, i + d = 257 → Ev (fun k => nunciolaw10_HuffCodes.l0 k a0 codesL ((hcS i : Nat) : Int) (i : Int)) true
  | 0, i, hd => by
    obtain rfl : i = 257 := by omega
    refine Ev.step (f := fun _ => some true) (fun k => ?_) (Ev.now _)
    simp only [nunciolaw10_HuffCodes.l0]
    rw [if_neg (by omega), hcS_end]
    unfold huff_Code.f
    by_cases h1 : a0 < 0
    · rw [if_pos h1, Option.bind_some, if_pos (by rfl), if_neg (by omega), if_pos rfl]
      rfl
    · rw [if_neg h1]
      by_cases h2 : a0 > 256
      · rw [if_pos h2, Option.bind_some, if_pos (by rfl), if_pos (by omega), if_neg (by omega), if_pos rfl]
        rfl
      · rw [if_neg h2, bits_f (by omega) (by omega)]
        simp only [Option.bind_some]
        rw [if_pos (by rfl), if_pos (by omega), if_pos (by omega)]
  | d + 1, i, hd => by
    have hi : i < 257 := by omega
    have b2 := hcLen_bounds i hi
    have c2 := hcCode_small hi
    have hS := hcS_le i
    have h2 : 2 ^ (30 - hcLen i) ≤ 2 ^ 30 := pow_le_pow (by omega)
    have ih := codes_l0 a0 d (i + 1) (by omega)
    have e1 : IntKind.u64.wrap (((hcS i : Nat) : Int) + (shl .u64 1 (wrap64 (30 - ((hcLen i : Nat) : Int))))) = ((hcS (i + 1) : Nat) : Int) := by
      have e := shl64 (x := 1) (n := 30 - hcLen i) (by omega) (by omega)
      rw [Nat.one_mul, show ((1 : Nat) : Int) = 1 from rfl] at e
      have e' : shl .u64 1 (wrap64 (30 - ((hcLen i : Nat) : Int))) = ((2 ^ (30 - hcLen i) : Nat) : Int) := by
        rw [w64 (x := 30 - ((hcLen i : Nat) : Int)) (by omega) (by omega), show (30 : Int) - ((hcLen i : Nat) : Int) = ((30 - hcLen i : Nat) : Int) by omega]
        exact e
      rw [e', hcS]
      clear e e'
      generalize 2 ^ (30 - hcLen i) = q at *
      rw [wu64_id (n := ((hcS i : Nat) : Int) + (q : Int)) (by omega) (by omega)]
      omega
    have hl1 := codes_l1 a0 hi ((hcS (i + 1) : Nat) : Int) (Ev.congr (fun k => by rw [w64 (by omega) (by omega)]; rfl) ih) i 0 (by omega)
    have hj1 : Ev (fun k => nunciolaw10_HuffCodes.j1 k a0 codesL ((hcS i : Nat) : Int) (i : Int) ((hcCode i : Nat) : Int) ((hcLen i : Nat) : Int) false) true := by
      refine Ev.step (fun k => ?_) hl1
      simp only [nunciolaw10_HuffCodes.j1]
      rw [if_neg (by simp), if_pos (by rw [w64 (by omega) (by omega)]; omega), e1]
      rfl
    refine Ev.step (fun k => ?_) hj1
    simp only [nunciolaw10_HuffCodes.l0]
    rw [if_pos (by omega), code_f hi, Option.bind_some, if_pos (by omega), if_pos (by rw [codesL_length]; omega), codes_rd hi, wu64_id (n := ((hcCode i : Nat) : Int)) (by omega) (by omega), if_pos rfl, length_f (by omega) (by omega), Option.bind_some, Int.toNat_natCast, bne_self_eq_false]
theorem HuffCodes : nunciolaw10_HuffCodes.Pure := by
  intro a0 _
  refine Ev.rounds ?_
  refine Ev.congr (fun k => by unfold nunciolaw10_HuffCodes.f; rfl) (Ev.bind awake10 (ev_pos rfl ?_))
  refine Ev.bind codes_f ?_
  exact codes_l0 a0 257 0 (by omega)
end Go.Proofs.Ytadnfcodaoflfaa.Pure
