/- Any bytes are decoded to just the document's, or refused: for any text. -/
import Derived.Test.YtadnfcodaoflfaaMinex12
import Derived.Test.YtadnfcodaoflfaaMinex11
import Derived.Test.YtadnfcodaoflfaaLHuffR
import Derived.Test.YtadnfcodaoflfaaLHuffD
namespace Go.Proofs.Ytadnfcodaoflfaa.Pure
open Go.RowKit Go.Proofs.Ytadnfcodaoflfaa.Mine Go.Proofs.YtadnfcodaoflfaaW.PrintWords Go.Proofs.YtadnfcodaoflfaaW.PrintLast Go.Proofs.YtadnfcodaoflfaaW.PrintMore
set_option linter.unusedVariables false

theorem codesL_length' : codesL.length = 257 := by decide +kernel
theorem codes_all' : ∀ k : Fin 257, rd codesL ((k.val : Nat) : Int) = ((hcCode k.val : Nat) : Int) := by decide +kernel
/-- The pending bits are all 1. -/
theorem ref_l3 (out : List Int) {n : Nat} (hn : n ≤ 7) : ∀ d j c : Nat, j + d = n → c < 2 ^ d →
    Ev (fun k => nuncioref10_Decode.l3 k out (c : Int) (n : Int) (j : Int)) (res (if c + 1 = 2 ^ d then some out else none))
  | 0, j, c, hd, hc => by
    refine Ev.step (f := fun _ => some (res (some out))) (fun k => ?_) ?_
    · simp only [nuncioref10_Decode.l3]
      rw [if_neg (by omega)]
      rfl
    · rw [if_pos (by omega)]; exact Ev.now _
  | d + 1, j, c, hd, hc => by
    have hq : 2 ^ (d + 1) ≤ 2 ^ 7 := pow_le_pow (by omega)
    rw [Nat.pow_succ] at hc ⊢
    by_cases h2 : c % 2 = 0
    · refine Ev.step (f := fun _ => some (res none)) (fun k => ?_) ?_
      · simp only [nuncioref10_Decode.l3]
        rw [if_pos (by omega), tmod_pos _ (by omega), if_pos (by omega)]
        rfl
      · rw [if_neg (by omega)]; exact Ev.now _
    · have ih := ref_l3 out hn d (j + 1) (c / 2) (by omega) (by omega)
      have e : (c / 2 + 1 = 2 ^ d) ↔ (c + 1 = 2 ^ d * 2) := by omega
      rw [show (if c + 1 = 2 ^ d * 2 then some out else none) = (if c / 2 + 1 = 2 ^ d then some out else none) by simp only [e]]
      refine Ev.step (fun k => ?_) ih
      rw [Nat.pow_succ] at hq
      simp only [nuncioref10_Decode.l3]
      rw [if_pos (by omega), tmod_pos _ (by omega), if_neg (by omega), tdiv_pos _ (by omega), wu64_id (n := (c : Int) / 2) (by omega) (by omega), w64 (x := (j : Int) + 1) (by omega) (by omega)]
      rfl
/-- All signs are gone through. -/
theorem ref_l2 (s : ByteArray) {out : List Int} {code n i : Nat} (hout : out.length ≤ 8000000) (hn : n < 31) (r : ByteArray × Int)
    (H0 : look n code = none → Ev (fun k => nuncioref10_Decode.l0 k s codesL out (code : Int) (n : Int) (wrap64 ((i : Int) + 1))) r)
    (H1 : look n code = some 256 → r = res none)
    (H2 : ∀ sg, look n code = some sg → sg ≠ 256 → Ev (fun k => nuncioref10_Decode.l0 k s codesL (out ++ [(sg : Int)]) 0 0 (wrap64 ((i : Int) + 1))) r) :
    ∀ d c : Nat, c + d = 257 → (∀ q, q < c → look n code ≠ some q) → Ev (fun k => nuncioref10_Decode.l2 k s codesL out (code : Int) (n : Int) (i : Int) (c : Int)) r
  | 0, c, hd, hc => by
    have hnone : look n code = none := by
      cases e : look n code with
      | none => rfl
      | some q => exact absurd e (hc q (by have := (look_some hn e).2.2.2.2.2.1; omega))
    refine Ev.step (fun k => ?_) (H0 hnone)
    simp only [nuncioref10_Decode.l2]
    rw [if_neg (by omega)]
  | d + 1, c, hd, hc => by
    have hc257 : c < 257 := by omega
    have hb := hcLen_bounds c hc257
    by_cases hk : look n code = some c
    · obtain ⟨_, _, _, _, _, _, hL, hC⟩ := look_some hn hk
      have hj3 : Ev (fun k => nuncioref10_Decode.j3 k s codesL out (code : Int) (n : Int) (i : Int) (c : Int) true) r := by
        by_cases h256 : c = 256
        · subst h256
          refine Ev.step (f := fun _ => some r) (fun k => ?_) (Ev.now _)
          simp only [nuncioref10_Decode.j3]
          rw [if_pos trivial, if_pos (by rfl), H1 hk]
          rfl
        · refine Ev.step (fun k => ?_) (H2 c hk h256)
          simp only [nuncioref10_Decode.j3]
          rw [if_pos trivial, if_neg (by omega), if_pos (by omega), show (c : Int) % 256 = (c : Int) by omega]
      refine Ev.step (fun k => ?_) hj3
      simp only [nuncioref10_Decode.l2]
      rw [if_pos (by omega), length_f (by omega) (by omega), Option.bind_some, Int.toNat_natCast, if_pos (by omega), if_pos (by omega), if_pos (by rw [codesL_length']; omega), codes_all' ⟨c, hc257⟩, hC, beq_self_eq_true]
    · have ih := ref_l2 s hout hn r H0 H1 H2 d (c + 1) (by omega) (fun q hq => by
        by_cases e : q = c
        · subst e; exact hk
        · exact hc q (by omega))
      have hj3 : Ev (fun k => nuncioref10_Decode.j3 k s codesL out (code : Int) (n : Int) (i : Int) (c : Int) false) r := by
        refine Ev.step (fun k => ?_) ih
        simp only [nuncioref10_Decode.j3]
        rw [if_neg (by simp), w64 (x := (c : Int) + 1) (by omega) (by omega)]
        rfl
      refine Ev.step (fun k => ?_) hj3
      simp only [nuncioref10_Decode.l2]
      rw [if_pos (by omega), length_f (by omega) (by omega), Option.bind_some, Int.toNat_natCast]
      by_cases hL : hcLen c = n
      · rw [if_pos (by omega), if_pos (by omega), if_pos (by rw [codesL_length']; omega), codes_all' ⟨c, hc257⟩]
        have hne : (((hcCode c : Nat) : Int) == ((code : Nat) : Int)) = false := by
          rw [beq_eq_false_iff_ne]
          intro e
          have e2 : hcCode c = code := by omega
          have := look_of c hc257
          rw [hL, e2] at this
          exact hk this
        rw [hne]
      · rw [if_neg (by omega)]
/-- A byte's bit. -/
theorem ref_l1 (s : ByteArray) {out : List Int} {code n i : Nat} (hcode : code < 1073741824) (hn : n ≤ 29) (r : ByteArray × Int) : ∀ d j y : Nat, j + d = 7 → y < 256 →
    Ev (fun k => nuncioref10_Decode.l2 k s codesL out ((2 * code + y / 2 ^ d % 2 : Nat) : Int) ((n + 1 : Nat) : Int) (i : Int) 0) r →
    Ev (fun k => nuncioref10_Decode.l1 k s codesL out (code : Int) (n : Int) (i : Int) (y : Int) (j : Int)) r
  | 0, j, y, hd, hy, H => by
    refine Ev.step (fun k => ?_) H
    simp only [nuncioref10_Decode.l1]
    rw [if_neg (by omega), w64 (x := (n : Int) + 1) (by omega) (by omega), if_neg (by omega), tmod_pos _ (by omega), wu64_id (n := (code : Int) * 2) (by omega) (by omega), wu64_id (n := (y : Int) % 2) (by omega) (by omega), wu64_id (n := (code : Int) * 2 + (y : Int) % 2) (by omega) (by omega), Nat.pow_zero, Nat.div_one, show (code : Int) * 2 + (y : Int) % 2 = ((2 * code + y % 2 : Nat) : Int) by omega]
    rfl
  | d + 1, j, y, hd, hy, H => by
    have ih := ref_l1 s hcode hn r d (j + 1) (y / 2) (by omega) (by omega) (by rw [show y / 2 / 2 ^ d = y / 2 ^ (d + 1) by rw [Nat.div_div_eq_div_mul, Nat.pow_succ, Nat.mul_comm]]; exact H)
    refine Ev.step (fun k => ?_) ih
    simp only [nuncioref10_Decode.l1]
    rw [if_pos (by omega), tdiv_pos _ (by omega), show (y : Int) / 2 % 256 = ((y / 2 : Nat) : Int) by omega, w64 (x := (j : Int) + 1) (by omega) (by omega)]
    rfl
set_option maxHeartbeats 1000000 in
theorem ref_l0 {s : ByteArray} (hs : s.size ≤ 1000000) : ∀ (bs : List Bool) (i code n : Nat) (ones : Bool) (out : List Int), bs = (ub (bytesOf s)).drop i → i + bs.length = 8 * s.size → Pend code n → ones = (code + 1 == 2 ^ n) → out.length ≤ i →
    Ev (fun k => nuncioref10_Decode.l0 k s codesL out (code : Int) (n : Int) (i : Int)) (res (dec bs code n ones out))
  | [], i, code, n, ones, out, hbs, hi, hP, hones, ho => by
    have hi2 : i = 8 * s.size := by simpa using hi
    have e8 : Unit → wrap64 (8 * (s.size : Int)) = 8 * (s.size : Int) := fun _ => w64 (by omega) (by omega)
    rw [dec]
    by_cases h7 : n > 7
    · rw [if_pos (.inl h7)]
      refine Ev.step (f := fun _ => some (res none)) (fun k => ?_) (Ev.now _)
      simp only [nuncioref10_Decode.l0]
      rw [e8 (), if_neg (by omega), if_pos (by omega)]
      rfl
    · have h3 := ref_l3 out (n := n) (by omega) n 0 code (by omega) hP.1
      have e : (if n > 7 ∨ ones = false then none else some out) = (if code + 1 = 2 ^ n then some out else none) := by
        rw [hones]
        by_cases hc : code + 1 = 2 ^ n
        · rw [if_pos hc, if_neg (by rw [beq_iff_eq.2 hc]; intro h_; rcases h_ with h_ | h_; omega; cases h_)]
        · rw [if_neg hc, if_pos (.inr (beq_eq_false_iff_ne.2 hc))]
      rw [e]
      refine Ev.step (fun k => ?_) h3
      simp only [nuncioref10_Decode.l0]
      rw [e8 (), if_neg (by omega), if_neg (by omega)]
      rfl
  | b :: bs, i, code, n, ones, out, hbs, hi, hP, hones, ho => by
    have hlen : (bytesOf s).length = s.size := bytesOf_length s
    rw [List.length_cons] at hi
    have hd := ub_drop (l := bytesOf s) (i := i) (by omega)
    rw [hd] at hbs
    obtain ⟨hb, hbs'⟩ := List.cons.inj hbs
    have hi8 : i / 8 < (bytesOf s).length := by omega
    have hby := bytesOf_bytes s _ (List.getElem_mem hi8)
    obtain ⟨x, hx⟩ : ∃ x : Nat, (bytesOf s)[i / 8] = (x : Int) := ⟨((bytesOf s)[i / 8]).toNat, by omega⟩
    have e1 : (bytesOf s).getD (i / 8) 0 = (x : Int) := by rw [List.getD_eq_getElem?_getD, List.getElem?_eq_getElem hi8, Option.getD_some, hx]
    rw [e1, Int.toNat_natCast] at hb
    have hcode : code < 536870912 := by
      have h1 := hP.1
      have h2 : 2 ^ n ≤ 2 ^ 29 := pow_le_pow hP.2.1
      omega
    have hn29 := hP.2.1
    have hbn : b.toNat = x / 2 ^ (7 - i % 8) % 2 := by rw [hb, bit_toNat]
    have e8 : Unit → wrap64 (8 * (s.size : Int)) = 8 * (s.size : Int) := fun _ => w64 (by omega) (by omega)
    have ei : Unit → wrap64 ((i : Int) + 1) = ((i + 1 : Nat) : Int) := fun _ => by rw [w64 (by omega) (by omega)]; rfl
    have hones' : (ones && b) = (2 * code + b.toNat + 1 == 2 ^ (n + 1)) := by
      rw [hones, Nat.pow_succ, Bool.eq_iff_iff]
      generalize 2 ^ n = q
      clear hbn hb
      cases b
      · rw [Bool.and_false, beq_iff_eq, show false.toNat = 0 from rfl]
        constructor
        · intro h_; cases h_
        · intro h_; omega
      · rw [Bool.and_true, beq_iff_eq, beq_iff_eq, show true.toNat = 1 from rfl]
        constructor <;> intro h_ <;> omega
    have hl2 : Ev (fun k => nuncioref10_Decode.l2 k s codesL out ((2 * code + b.toNat : Nat) : Int) ((n + 1 : Nat) : Int) (i : Int) 0) (res (dec (b :: bs) code n ones out)) := by
      refine ref_l2 s (by omega) (by omega) _ (fun h => ?_) (fun h => ?_) (fun sg h h256 => ?_) 257 0 (by omega) (fun q hq => by omega)
      · rw [dec, h, ei ()]
        exact ref_l0 hs bs (i + 1) _ (n + 1) (ones && b) out hbs' (by omega) (hP.step b h) hones' (by omega)
      · rw [dec, h]
        simp only
        rw [if_pos trivial]
      · rw [dec, h, ei ()]
        simp only
        rw [if_neg h256]
        exact ref_l0 hs bs (i + 1) 0 0 true (out ++ [(sg : Int)]) hbs' (by omega) Pend.zero rfl (by simp; omega)
    have hl1 := ref_l1 s (out := out) (code := code) (i := i) (by omega) hn29 _ (7 - i % 8) (i % 8) x (by omega) (by omega) (by rw [← hbn]; exact hl2)
    refine Ev.step (fun k => ?_) hl1
    have e2 : bt s (((i / 8 : Nat)) : Int) = (x : Int) := by rw [bt_eq, rd_nat hi8, hx]
    simp only [nuncioref10_Decode.l0]
    rw [e8 (), if_pos (by omega), tdiv_pos (a := (i : Int)) _ (by omega), w64 (x := (i : Int) / 8) (by omega) (by omega), if_pos (by omega), if_pos (by omega), tmod_pos (a := (i : Int)) _ (by omega), show (i : Int) / 8 = ((i / 8 : Nat) : Int) by omega, e2, show (i : Int) % 8 = ((i % 8 : Nat) : Int) by omega]
theorem ref_decode_f (s : ByteArray) (hs : s.size ≤ 1000000) : Ev (fun k => nuncioref10_Decode.f k s) (res (dec (ub (bytesOf s)) 0 0 true [])) := by
  have hlen : (bytesOf s).length = s.size := bytesOf_length s
  have h := ref_l0 hs (ub (bytesOf s)) 0 0 0 true [] (by rw [List.drop_zero]) (by rw [ub_length]; omega) Pend.zero rfl (by simp)
  refine Ev.congr (fun k => by unfold nuncioref10_Decode.f; rfl) (Ev.bind codes_f ?_)
  exact h
theorem HuffDecodes : nunciolaw10_HuffDecodes.Pure := by
  intro s _
  refine Ev.rounds ?_
  refine Ev.congr (fun k => by unfold nunciolaw10_HuffDecodes.f; rfl) (Ev.bind awake10 (ev_pos rfl ?_))
  by_cases h1 : (s.size : Int) > 500
  · exact ev_pos h1 (Ev.now _)
  refine ev_neg h1 ?_
  refine Ev.bind (decode_f s (by omega)) ?_
  refine Ev.bind (ref_decode_f s (by omega)) ?_
  exact ev_pos rfl (ev_val (beq_self_eq_true _))
end Go.Proofs.Ytadnfcodaoflfaa.Pure
