/- Codes of header texts, as bits: plain laws, no program in sight. -/
import Derived.Test.YtadnfcodaoflfaaMinex3
import Derived.Test.YtadnfcodaoflfaaLBase
namespace Go.Proofs.Ytadnfcodaoflfaa.Pure
open Go.RowKit Go.Proofs.Ytadnfcodaoflfaa.Mine Go.Proofs.YtadnfcodaoflfaaW.PrintWords Go.Proofs.YtadnfcodaoflfaaW.PrintLast Go.Proofs.YtadnfcodaoflfaaW.PrintMore

/-- n bits of v, the highest first. -/
def bN : Nat → Nat → List Bool
  | 0, _ => []
  | n + 1, v => (v / 2 ^ n % 2 == 1) :: bN n v
theorem bN_length : ∀ n v, (bN n v).length = n
  | 0, _ => rfl
  | n + 1, v => by rw [bN, List.length_cons, bN_length n v]
theorem bN_add : ∀ a b v, bN (a + b) v = bN a (v / 2 ^ b) ++ bN b v
  | 0, b, v => by rw [Nat.zero_add]; rfl
  | a + 1, b, v => by
    rw [show a + 1 + b = (a + b) + 1 by omega, bN, bN, bN_add a b v, List.cons_append, Nat.div_div_eq_div_mul, ← Nat.pow_add, Nat.add_comm b a]
/-- The number that bits are. -/
def bV : List Bool → Nat
  | [] => 0
  | b :: l => b.toNat * 2 ^ l.length + bV l
theorem bV_lt : ∀ l : List Bool, bV l < 2 ^ l.length
  | [] => by simp [bV]
  | b :: l => by
    have := bV_lt l
    rw [bV, List.length_cons, Nat.pow_succ]
    cases b <;> simp <;> omega
theorem bV_bN : ∀ n v, bV (bN n v) = v % 2 ^ n
  | 0, v => by simp [bN, bV, Nat.mod_one]
  | n + 1, v => by
    rw [bN, bV, bN_length, bV_bN n v, Nat.pow_succ, Nat.mod_mul]
    have h2 : v / 2 ^ n % 2 = 0 ∨ v / 2 ^ n % 2 = 1 := by omega
    rcases h2 with h | h <;> rw [h] <;> simp <;> omega
theorem bN_congr : ∀ {n v w : Nat}, v % 2 ^ n = w % 2 ^ n → bN n v = bN n w
  | 0, _, _, _ => rfl
  | n + 1, v, w, h => by
    have hp : 0 < 2 ^ n := Nat.pow_pos (by omega)
    rw [Nat.pow_succ, Nat.mod_mul, Nat.mod_mul] at h
    have h1 : v % 2 ^ n < 2 ^ n := Nat.mod_lt _ hp
    have h2 : w % 2 ^ n < 2 ^ n := Nat.mod_lt _ hp
    have h3 : v / 2 ^ n % 2 = 0 ∨ v / 2 ^ n % 2 = 1 := by omega
    have h4 : w / 2 ^ n % 2 = 0 ∨ w / 2 ^ n % 2 = 1 := by omega
    have h5 : v / 2 ^ n % 2 = w / 2 ^ n % 2 ∧ v % 2 ^ n = w % 2 ^ n := by
      rcases h3 with h3 | h3 <;> rcases h4 with h4 | h4 <;> rw [h3, h4] at h ⊢ <;> simp at h ⊢ <;> omega
    rw [bN, bN, h5.1, bN_congr h5.2]
theorem bN_inj {n v w : Nat} (hv : v < 2 ^ n) (hw : w < 2 ^ n) (h : bN n v = bN n w) : v = w := by
  have := congrArg bV h
  rwa [bV_bN, bV_bN, Nat.mod_eq_of_lt hv, Nat.mod_eq_of_lt hw] at this
theorem bN_one (v : Nat) : bN 1 v = [v % 2 == 1] := by simp [bN]
theorem bN_snoc (n c : Nat) (b : Bool) : bN (n + 1) (2 * c + b.toNat) = bN n c ++ [b] := by
  rw [bN_add n 1, bN_one]
  have e1 : (2 * c + b.toNat) / 2 ^ 1 = c := by cases b <;> simp <;> omega
  rw [e1]
  cases b <;> simp <;> omega
theorem bN_join (a b v c : Nat) (hc : c < 2 ^ b) : bN (a + b) (v * 2 ^ b + c) = bN a v ++ bN b c := by
  have hp : 0 < 2 ^ b := Nat.pow_pos (by omega)
  rw [bN_add, show (v * 2 ^ b + c) / 2 ^ b = v by rw [Nat.mul_comm, Nat.mul_add_div hp, Nat.div_eq_of_lt hc, Nat.add_zero], bN_congr (show (v * 2 ^ b + c) % 2 ^ b = c % 2 ^ b by rw [Nat.mul_comm, Nat.mul_add_mod])]
theorem bN_ones : ∀ n, bN n (2 ^ n - 1) = List.replicate n true
  | 0 => rfl
  | n + 1 => by
    have hp : 0 < 2 ^ n := Nat.pow_pos (by omega)
    have h1 : (2 ^ (n + 1) - 1) / 2 ^ n = 1 := by
      rw [Nat.pow_succ]
      exact Nat.div_eq_of_lt_le (by omega) (by omega)
    rw [bN, h1, bN_congr (show (2 ^ (n + 1) - 1) % 2 ^ n = (2 ^ n - 1) % 2 ^ n by
      rw [show 2 ^ (n + 1) - 1 = 2 ^ n * 1 + (2 ^ n - 1) by rw [Nat.pow_succ]; omega, Nat.mul_add_mod]), bN_ones n]
    rfl

/-- The bits of bytes. -/
def ub (l : List Int) : List Bool := l.flatMap fun x => bN 8 x.toNat
theorem ub_nil : ub [] = [] := rfl
theorem ub_append (a b : List Int) : ub (a ++ b) = ub a ++ ub b := by simp [ub]
theorem ub_one (x : Int) : ub [x] = bN 8 x.toNat := by simp [ub]
theorem ub_cons (x : Int) (l : List Int) : ub (x :: l) = bN 8 x.toNat ++ ub l := by simp [ub]
theorem ub_length : ∀ l, (ub l).length = 8 * l.length
  | [] => rfl
  | x :: l => by rw [ub_cons, List.length_append, bN_length, ub_length l, List.length_cons]; omega
theorem ub_inj : ∀ {a b : List Int}, Bytes a → Bytes b → ub a = ub b → a = b
  | [], [], _, _, _ => rfl
  | [], y :: b, _, _, h => by have := congrArg List.length h; rw [ub_length, ub_length] at this; simp at this
  | x :: a, [], _, _, h => by have := congrArg List.length h; rw [ub_length, ub_length] at this; simp at this
  | x :: a, y :: b, ha, hb, h => by
    rw [ub_cons, ub_cons] at h
    obtain ⟨h1, h2⟩ := List.append_inj h (by rw [bN_length, bN_length])
    have hx := ha.head
    have hy := hb.head
    have := bN_inj (n := 8) (by omega) (by omega) h1
    rw [show x = y by omega, ub_inj ha.tail hb.tail h2]

/-- The bits of a text's codes. -/
def cb (c : Nat) : List Bool := bN (hcLen c) (hcCode c)
def eb (l : List Int) : List Bool := l.flatMap fun x => cb x.toNat
theorem eb_append (a b : List Int) : eb (a ++ b) = eb a ++ eb b := by simp [eb]
theorem eb_one (x : Int) : eb [x] = cb x.toNat := by simp [eb]
theorem eb_cons (x : Int) (l : List Int) : eb (x :: l) = cb x.toNat ++ eb l := by simp [eb]
theorem cb_length (c : Nat) : (cb c).length = hcLen c := bN_length _ _
/-- Bytes that are a text's codes, filled up by ones. -/
def IsEnc (s o : List Int) : Prop := Bytes o ∧ ∃ p, p < 8 ∧ ub o = eb s ++ List.replicate p true
theorem IsEnc.uniq {s o o' : List Int} (h : IsEnc s o) (h' : IsEnc s o') : o = o' := by
  obtain ⟨hb, p, hp, e⟩ := h
  obtain ⟨hb', p', hp', e'⟩ := h'
  have l1 := congrArg List.length e
  have l2 := congrArg List.length e'
  rw [ub_length, List.length_append, List.length_replicate] at l1 l2
  have : p = p' := by omega
  subst this
  exact ub_inj hb hb' (e.trans e'.symm)
theorem IsEnc.length {s o : List Int} (h : IsEnc s o) : o.length = ((eb s).length + 7) / 8 := by
  obtain ⟨_, p, hp, e⟩ := h
  have l1 := congrArg List.length e
  rw [ub_length, List.length_append, List.length_replicate] at l1
  omega
theorem hcLen_bounds (c : Nat) (h : c < 257) : 5 ≤ hcLen c ∧ hcLen c ≤ 30 := by
  obtain ⟨_, _, _, h1, h2⟩ := hcSigns_all c h
  exact ⟨h1, h2⟩
theorem eb_length_bounds : ∀ {l : List Int}, Bytes l → 5 * l.length ≤ (eb l).length ∧ (eb l).length ≤ 30 * l.length
  | [], _ => by simp [eb]
  | x :: l, h => by
    have h1 := eb_length_bounds h.tail
    have h2 := h.head
    have h3 := hcLen_bounds x.toNat (by omega)
    rw [eb_cons, List.length_append, cb_length, List.length_cons]
    omega

/-! the table, both ways -/
theorem hcCode_lt : ∀ c, c < 257 → hcCode c < 2 ^ hcLen c := by decide +kernel
/-- The sign that n bits are the code of. -/
def look (n code : Nat) : Option Nat := if 5 ≤ n ∧ hcFirst n ≤ code ∧ code - hcFirst n < hcCount n then some (hcSign (hcBegin n + (code - hcFirst n))) else none
theorem look_all : ∀ n, n < 31 → ∀ d, d < 33 → (5 ≤ n ∧ d < hcCount n → hcSign (hcBegin n + d) < 257 ∧ hcLen (hcSign (hcBegin n + d)) = n ∧ hcCode (hcSign (hcBegin n + d)) = hcFirst n + d ∧ hcBegin n + d < 257) := by decide +kernel
theorem hcCount_le : ∀ n, n < 31 → hcCount n ≤ 32 := by decide +kernel
theorem look_some {n code sg : Nat} (hn : n < 31) (h : look n code = some sg) : 5 ≤ n ∧ hcFirst n ≤ code ∧ code - hcFirst n < hcCount n ∧ sg = hcSign (hcBegin n + (code - hcFirst n)) ∧ hcBegin n + (code - hcFirst n) < 257 ∧ sg < 257 ∧ hcLen sg = n ∧ hcCode sg = code := by
  unfold look at h
  split at h
  · rename_i hc
    obtain ⟨h1, h2, h3⟩ := hc
    have h4 := hcCount_le n hn
    obtain ⟨h5, h6, h7, h8⟩ := look_all n hn (code - hcFirst n) (by omega) ⟨h1, h3⟩
    have h9 := (Option.some.inj h).symm
    rw [← h9] at h5 h6 h7
    exact ⟨h1, h2, h3, h9, h8, h5, h6, by omega⟩
  · cases h
theorem look_of : ∀ c, c < 257 → look (hcLen c) (hcCode c) = some c := by decide +kernel
theorem limits : ∀ n, n < 30 → 5 ≤ n → hcFirst (n + 1) = 2 * (hcFirst n + hcCount n) := by decide +kernel
theorem limit_end : hcFirst 5 = 0 ∧ hcFirst 30 + hcCount 30 = 1073741824 := by decide +kernel

/-- What is behind the last sign, so far. -/
def Pend (code n : Nat) : Prop := code < 2 ^ n ∧ n ≤ 29 ∧ (5 ≤ n → hcFirst n + hcCount n ≤ code)
theorem Pend.zero : Pend 0 0 := ⟨by decide, by omega, by omega⟩
theorem Pend.first {code n : Nat} (h : Pend code n) (b : Bool) (h5 : 5 ≤ n + 1) : hcFirst (n + 1) ≤ 2 * code + b.toNat := by
  obtain ⟨h1, h2, h3⟩ := h
  by_cases e : n + 1 = 5
  · rw [e, limit_end.1]; omega
  · have := limits n (by omega) (by omega)
    have := h3 (by omega)
    omega
theorem Pend.lt {code n : Nat} (h : Pend code n) (b : Bool) : 2 * code + b.toNat < 2 ^ (n + 1) := by
  have := h.1
  rw [Nat.pow_succ]
  cases b <;> simp <;> omega
theorem Pend.step {code n : Nat} (h : Pend code n) (b : Bool) (hl : look (n + 1) (2 * code + b.toNat) = none) : Pend (2 * code + b.toNat) (n + 1) := by
  have hlt := h.lt b
  have key : 5 ≤ n + 1 → hcFirst (n + 1) + hcCount (n + 1) ≤ 2 * code + b.toNat := by
    intro h5
    have hf := h.first b h5
    refine Nat.le_of_not_lt fun hh => ?_
    unfold look at hl
    rw [if_pos ⟨h5, hf, by omega⟩] at hl
    cases hl
  refine ⟨hlt, ?_, key⟩
  refine Nat.le_of_not_lt fun hh => ?_
  have hn : n + 1 = 30 := by have := h.2.1; omega
  have h2 := key (by omega)
  rw [hn] at h2 hlt
  rw [limit_end.2] at h2
  omega

/-- A text read bit by bit: none: it is refused. -/
def dec : List Bool → Nat → Nat → Bool → List Int → Option (List Int)
  | [], _, n, ones, out => if n > 7 ∨ ones = false then none else some out
  | b :: bs, code, n, ones, out => match look (n + 1) (2 * code + b.toNat) with
    | none => dec bs (2 * code + b.toNat) (n + 1) (ones && b) out
    | some sg => if sg = 256 then none else dec bs 0 0 true (out ++ [(sg : Int)])
/-- Bits that are one code to their end. -/
def hit : List Bool → Nat → Nat → Option Nat
  | [], _, _ => none
  | b :: bs, code, n => match look (n + 1) (2 * code + b.toNat) with
    | none => hit bs (2 * code + b.toNat) (n + 1)
    | some sg => if bs = [] then some sg else none
theorem hit_all : ∀ c, c < 257 → hit (cb c) 0 0 = some c := by decide +kernel
theorem dec_hit : ∀ (l R : List Bool) (code n : Nat) (ones : Bool) (out : List Int) (c : Nat), hit l code n = some c → c ≠ 256 → dec (l ++ R) code n ones out = dec R 0 0 true (out ++ [(c : Int)])
  | [], _, _, _, _, _, _, h, _ => by simp [hit] at h
  | b :: bs, R, code, n, ones, out, c, h, hc => by
    rw [List.cons_append, dec]
    rw [hit] at h
    cases e : look (n + 1) (2 * code + b.toNat) with
    | none =>
      rw [e] at h
      exact dec_hit bs R _ _ _ out c h hc
    | some sg =>
      rw [e] at h
      simp only at h ⊢
      by_cases hb : bs = []
      · subst hb
        rw [if_pos rfl] at h
        obtain rfl := Option.some.inj h
        rw [if_neg hc]; rfl
      · rw [if_neg hb] at h; cases h
theorem dec_text : ∀ (s : List Int) (R : List Bool) (out : List Int), Bytes s → dec (eb s ++ R) 0 0 true out = dec R 0 0 true (out ++ s)
  | [], R, out, _ => by simp [eb]
  | x :: s, R, out, h => by
    have hx := h.head
    rw [eb_cons, List.append_assoc, dec_hit (cb x.toNat) _ 0 0 true out x.toNat (hit_all _ (by omega)) (by omega), dec_text s R _ h.tail, show ((x.toNat : Nat) : Int) = x by omega, List.append_assoc]
    rfl
theorem ones_none : ∀ n, n < 16 → look n (2 ^ n - 1) = none := by decide +kernel
theorem dec_ones : ∀ (p n : Nat) (out : List Int), n + p < 16 → dec (List.replicate p true) (2 ^ n - 1) n true out = if n + p > 7 then none else some out
  | 0, n, out, _ => by simp [dec]
  | p + 1, n, out, h => by
    have hp : 0 < 2 ^ n := Nat.pow_pos (by omega)
    have e : 2 * (2 ^ n - 1) + true.toNat = 2 ^ (n + 1) - 1 := by rw [Nat.pow_succ]; simp; omega
    rw [List.replicate_succ, dec, e, ones_none (n + 1) (by omega)]
    show dec (List.replicate p true) (2 ^ (n + 1) - 1) (n + 1) true out = _
    rw [dec_ones p (n + 1) out (by omega), show n + 1 + p = n + (p + 1) by omega]
theorem dec_back (s : List Int) (hs : Bytes s) (p : Nat) (hp : p < 16) : dec (eb s ++ List.replicate p true) 0 0 true [] = if p > 7 then none else some s := by
  rw [dec_text s _ [] hs, List.nil_append]
  have := dec_ones p 0 s (by omega)
  rw [Nat.zero_add] at this
  exact this
/-- What was read is what was put together, and what is behind it. -/
theorem dec_sound : ∀ (bs : List Bool) (code n : Nat) (ones : Bool) (out y : List Int), Pend code n → ones = (code + 1 == 2 ^ n) → dec bs code n ones out = some y →
    ∃ z p, y = out ++ z ∧ p < 8 ∧ Bytes z ∧ bN n code ++ bs = eb z ++ List.replicate p true
  | [], code, n, ones, out, y, hP, ho, h => by
    rw [dec] at h
    split at h
    · cases h
    · rename_i hc
      have h7 : n ≤ 7 := Nat.le_of_not_lt fun hh => hc (.inl hh)
      have h1 : ones = true := by
        cases ones
        · exact absurd (.inr rfl) hc
        · rfl
      rw [h1] at ho
      have h2 : code + 1 = 2 ^ n := by simpa using ho.symm
      have h3 : code = 2 ^ n - 1 := by omega
      refine ⟨[], n, by rw [List.append_nil]; exact (Option.some.inj h).symm, by omega, Bytes.nil, ?_⟩
      rw [h3, bN_ones, List.append_nil]
      rfl
  | b :: bs, code, n, ones, out, y, hP, ho, h => by
    rw [dec] at h
    have e : bN n code ++ b :: bs = bN (n + 1) (2 * code + b.toNat) ++ bs := by rw [bN_snoc, List.append_assoc]; rfl
    cases hl : look (n + 1) (2 * code + b.toNat) with
    | none =>
      rw [hl] at h
      simp only at h
      have ho' : (ones && b) = (2 * code + b.toNat + 1 == 2 ^ (n + 1)) := by
        rw [ho, Nat.pow_succ, Bool.eq_iff_iff]
        generalize 2 ^ n = q
        cases b
        · rw [Bool.and_false, beq_iff_eq, show false.toNat = 0 from rfl]
          constructor
          · intro h_; cases h_
          · intro h_; omega
        · rw [Bool.and_true, beq_iff_eq, beq_iff_eq, show true.toNat = 1 from rfl]
          constructor <;> intro h_ <;> omega
      obtain ⟨z, p, h1, h2, h3, h4⟩ := dec_sound bs _ _ _ out y (hP.step b hl) ho' h
      exact ⟨z, p, h1, h2, h3, e.trans h4⟩
    | some sg =>
      rw [hl] at h
      simp only at h
      have hn := hP.2.1
      obtain ⟨_, _, _, _, _, hs, hL, hC⟩ := look_some (by omega) hl
      by_cases h6 : sg = 256
      · rw [if_pos h6] at h; cases h
      · rw [if_neg h6] at h
        obtain ⟨z, p, h1, h2, h3, h4⟩ := dec_sound bs 0 0 true (out ++ [(sg : Int)]) y Pend.zero rfl h
        refine ⟨(sg : Int) :: z, p, by rw [h1, List.append_assoc]; rfl, h2, Bytes.cons (by omega) (by omega) h3, ?_⟩
        rw [e, eb_cons, Int.toNat_natCast, List.append_assoc, ← h4, cb, hL, hC]
        rfl
end Go.Proofs.Ytadnfcodaoflfaa.Pure
