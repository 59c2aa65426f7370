/- What the printed functions of query answer. -/
import Derived.Test.YthkdfnbhlinhiaaMinex7
import Derived.Test.YthkdfnbhlinhiaaMinex8
import Derived.Test.YthkdfnbhlinhiaaMinex9
import Derived.Test.YthkdfnbhlinhiaaMinex5
import Derived.Test.YthkdfnbhlinhiaaMinex6
import Derived.Test.YthkdfnbhlinhiaaMinex3
import Derived.Test.YthkdfnbhlinhiaaMinex10
import Derived.Test.YthkdfnbhlinhiaaMinex11
import Derived.Test.YthkdfnbhlinhiaaMinex16
import Derived.Test.YthkdfnbhlinhiaaLQName
import Derived.Test.YthkdfnbhlinhiaaLQB
namespace Go.Proofs.Ythkdfnbhlinhiaa.Pure
open Go.RowKit Go.Proofs.Ythkdfnbhlinhiaa.Mine Go.Proofs.YthkdfnbhlinhiaaW.PrintWords Go.Proofs.YthkdfnbhlinhiaaW.PrintLast Go.Proofs.YthkdfnbhlinhiaaW.PrintMore
set_option linter.unusedSimpArgs false
set_option linter.unusedVariables false

/-! ### names, however long -/
theorem LB_long {s : ByteArray} (h : 900000 < s.size) : LB s = none := by unfold LB; rw [if_pos (by omega)]
theorem is_g {k : Nat} {s : ByteArray} (hk : 300 < k) : name_Is.f k s = some (LB s).isSome := by
  by_cases h : s.size ≤ 900000
  · exact is_f h hk
  · rw [LB_long (by omega)]
    unfold name_Is.f name_split.f
    rw [if_pos (by omega)]
    rfl
theorem rlab_g {k : Nat} {s : ByteArray} (hk : 600 < k) (h : 900000 < s.size) : nuncioref04_Labels.f k s = some ([], false) := by
  obtain ⟨k, rfl⟩ : ∃ m, k = m + 1 + 1 := ⟨k - 2, by omega⟩
  unfold nuncioref04_Labels.f
  simp only [nuncioref04_Labels.l0, nuncioref04_Labels.j1]
  rw [if_pos (by omega), decide_eq_false (by omega), if_neg (by simp)]
theorem ris_g {k : Nat} {s : ByteArray} (hk : 600 < k) : nuncioref04_Is.f k s = some (LB s).isSome := by
  by_cases h : s.size ≤ 900000
  · exact ris_f h hk
  · rw [LB_long (by omega)]
    unfold nuncioref04_Is.f
    rw [rlab_g hk (by omega)]
    rfl
theorem FO_long {s : ByteArray} (h : 900000 < s.size) : FO s = E0 := by unfold FO; rw [LB_long h]; rfl
theorem fold_g {k : Nat} {s : ByteArray} (hk : 300 < k) : name_Fold.f k s = some (FO s) := by
  by_cases h : s.size ≤ 900000
  · exact fold_f h hk
  · rw [FO_long (by omega)]
    unfold name_Fold.f
    rw [is_g hk, LB_long (by omega)]
    rfl
theorem rfold_g {k : Nat} {s : ByteArray} (hk : 700 < k) : nuncioref04_Fold.f k s = some (FO s) := by
  by_cases h : s.size ≤ 900000
  · exact rfold_f h hk
  · rw [FO_long (by omega)]
    unfold nuncioref04_Fold.f
    rw [rlab_g (by omega) (by omega)]
    rfl
theorem ev_fold (s : ByteArray) : Ev (fun k => name_Fold.f k s) (FO s) := ev_ge 300 fun _ hk => fold_g hk
theorem ev_rfold (s : ByteArray) : Ev (fun k => nuncioref04_Fold.f k s) (FO s) := ev_ge 700 fun _ hk => rfold_g hk
theorem ev_ris (s : ByteArray) : Ev (fun k => nuncioref04_Is.f k s) (LB s).isSome := ev_ge 600 fun _ hk => ris_g hk
theorem FO_none {s : ByteArray} (h : LB s = none) : FO s = E0 := by unfold FO; rw [h]; rfl
theorem FO_some {s : ByteArray} (h : (LB s).isSome = true) : FO s = fo s := by unfold FO; rw [if_pos h]
theorem size_some {s : ByteArray} (h : (LB s).isSome = true) : 0 < s.size := by
  rcases Nat.eq_zero_or_pos s.size with h0 | h0
  · have : s = E0 := by apply bytesOf_inj; rw [bytesOf_empty]; exact List.eq_nil_of_length_eq_zero (by rw [← size_bytesOf, h0])
    subst this
    rw [LB_E0] at h
    exact absurd h (by simp)
  · exact h0
theorem E0_list : E0.toList = ([] : List UInt8) := by rw [toList_eq]
theorem FO_empty (s : ByteArray) : ((FO s).toList = ([] : List UInt8)) ↔ ¬ (LB s).isSome = true := by
  constructor
  · intro h h2
    have h1 : 0 < (FO s).size := by rw [FO_some h2, fo_size]; exact size_some h2
    have h3 : FO s = E0 := toList_inj.1 (h.trans E0_list.symm)
    rw [h3] at h1
    exact absurd h1 (by decide)
  · intro h
    have : LB s = none := by cases hl : LB s with
      | none => rfl
      | some x => rw [hl] at h; exact absurd rfl h
    rw [FO_none this, E0_list]

theorem n_and (n i : Nat) : n &&& 2 ^ i = (n / 2 ^ i % 2) * 2 ^ i := by
  apply Nat.eq_of_testBit_eq
  intro j
  rw [Nat.testBit_and, Nat.testBit_two_pow]
  have hb := Nat.testBit_eq_decide_div_mod_eq (x := n) (i := i)
  rcases Nat.mod_two_eq_zero_or_one (n / 2 ^ i) with h | h
  · rw [h] at hb ⊢
    by_cases e : i = j
    · subst e; rw [hb]; simp
    · rw [decide_eq_false e]; simp
  · rw [h] at hb ⊢
    rw [Nat.one_mul, Nat.testBit_two_pow]
    by_cases e : i = j
    · subst e; rw [hb]; simp
    · rw [decide_eq_false e]; simp
theorem andP {f : Int} (i : Nat) (hi : i < 16) (h0 : 0 ≤ f) (h1 : f ≤ 65535) : Go.bits .and .u16 f (2 ^ i) = (f / 2 ^ i % 2) * 2 ^ i := by
  have hp : (2 : Int) ^ i = ((2 ^ i : Nat) : Int) := by simp
  have hb : 2 ^ i < 65536 := show 2 ^ i < 2 ^ 16 from Nat.pow_lt_pow_right (by omega) hi
  have e : f = ((f.toNat : Nat) : Int) := by omega
  have key := u16_and f ((2 ^ i : Nat) : Int) h0 (by omega) (Int.natCast_nonneg _) (Int.ofNat_lt.2 hb)
  rw [hp, key, Int.toNat_natCast, n_and]
  generalize f.toNat = n at e
  subst e
  simp
theorem qr_iff {f : Int} (h0 : 0 ≤ f) (h1 : f ≤ 65535) : (Go.bits .and .u16 f 32768 = 0) ↔ f < 32768 := by
  have := andP 15 (by omega) h0 h1
  rw [show (2 : Int) ^ 15 = 32768 by decide] at this
  rw [this]; omega
theorem and_two {f : Int} (h0 : 0 ≤ f) (h1 : f ≤ 65535) : (Go.bits .and .u16 f 33280 = 32768) ↔ (32768 ≤ f ∧ f / 512 % 2 = 0) := by
  have e : f = ((f.toNat : Nat) : Int) := by omega
  rw [u16_and _ _ h0 (by omega) (by omega) (by omega), show (33280 : Int).toNat = 2 ^ 15 ||| 2 ^ 9 from by decide, Nat.and_or_distrib_left, n_and, n_and]
  generalize f.toNat = n at e
  subst e
  have h2 : n / 2 ^ 15 % 2 = 0 ∨ n / 2 ^ 15 % 2 = 1 := Nat.mod_two_eq_zero_or_one _
  have h3 : n / 2 ^ 9 % 2 = 0 ∨ n / 2 ^ 9 % 2 = 1 := Nat.mod_two_eq_zero_or_one _
  have e15 : (2 : Nat) ^ 15 = 32768 := by decide
  have e9 : (2 : Nat) ^ 9 = 512 := by decide
  rcases h2 with h2 | h2 <;> rcases h3 with h3 | h3 <;> rw [h2, h3] <;> rw [e15] at h2 <;> rw [e9] at h3 <;> rw [e15, e9]
  · have : ((0 * 32768 ||| 0 * 512 : Nat) : Int) = 0 := by decide
    rw [this]; omega
  · have : ((0 * 32768 ||| 1 * 512 : Nat) : Int) = 512 := by decide
    rw [this]; omega
  · have : ((1 * 32768 ||| 0 * 512 : Nat) : Int) = 32768 := by decide
    rw [this]; omega
  · have : ((1 * 32768 ||| 1 * 512 : Nat) : Int) = 33280 := by decide
    rw [this]; omega
theorem opcode_f {a f : Int} {q : List S53} {x y z : List S51} (h0 : 0 ≤ f) (h1 : f ≤ 65535) : query_opcode.f a f q x y z = some (f / 2048 % 16) := by
  unfold query_opcode.f
  rw [and15 (f := f / 2048) (by omega) (by omega), w64 (by omega) (by omega)]

/-! ### the queries' bit DO -/
def DOf : List S51 → Bool
  | [] => false
  | x :: r => if x.f1 = 41 then decide (x.f3 / 32768 % 2 = 1) else DOf r
theorem do_bit {f : Int} (h0 : 0 ≤ f) (h1 : f ≤ 4294967295) : (Go.bits .and .u32 f 32768 != 0) = decide (f / 32768 % 2 = 1) := by
  have e : f = ((f.toNat : Nat) : Int) := by omega
  rw [u32_and _ _ h0 (by omega) (by omega) (by omega), show (32768 : Int).toNat = 2 ^ 15 from by decide, n_and]
  generalize f.toNat = n at e
  subst e
  have e15 : (2 : Nat) ^ 15 = 32768 := by decide
  rw [e15, Bool.eq_iff_iff]
  simp only [bne_iff_ne, decide_eq_true_eq]
  omega
theorem do_l0 (l : List S51) (hl : l.length ≤ 1466015503700) (hw : ∀ x ∈ l, k51_wf x) : ∀ (d k i : Nat), i + d = l.length → d < k → query_do.l0 k l (l.length : Int) (i : Int) = some (DOf (l.drop i)) := by
  intro d
  induction d with
  | zero =>
    intro k i h hk
    obtain ⟨k, rfl⟩ : ∃ m, k = m + 1 := ⟨k - 1, by omega⟩
    simp only [query_do.l0]
    rw [if_neg (by omega), List.drop_eq_nil_of_le (by omega)]
    rfl
  | succ d ih =>
    intro k i h hk
    obtain ⟨k, rfl⟩ : ∃ m, k = m + 1 := ⟨k - 1, by omega⟩
    have hi : i < l.length := by omega
    simp only [query_do.l0]
    rw [if_pos (by omega), if_pos (by omega), if_pos (by omega), rd51 hi, List.drop_eq_getElem_cons hi]
    unfold DOf
    have hx := b_u32 (hw _ (List.getElem_mem hi)).2.2.2.1
    by_cases h1 : l[i].f1 = 41
    · rw [if_pos h1, if_pos h1, do_bit hx.1 hx.2]
    · rw [if_neg h1, if_neg h1, w64 (by omega) (by omega), show (i : Int) + 1 = ((i + 1 : Nat) : Int) by omega]
      exact ih k (i + 1) (by omega) (by omega)
theorem ev_do {a f : Int} {q : List S53} {x y z : List S51} (hl : z.length ≤ 1466015503700) (hw : ∀ x ∈ z, k51_wf x) : Ev (fun k => query_do.f k a f q x y z) (DOf z) :=
  ev_ge z.length fun k hk => by have := do_l0 z hl hw z.length k 0 (by omega) (by omega); rw [List.drop_zero] at this; exact this

/-! ### what a message asks -/
abbrev Key := ByteArray × Int × Int × Bool × Int
def bad : Key := ((⟨#[]⟩ : ByteArray), 0, 0, false, 107)
def ASK (f : Int) (q : List S53) (x y z : List S51) : Key :=
  if f < 32768 ∧ f / 2048 % 16 = 0 ∧ q.length = 1 ∧ x.length + y.length = 0 ∧ (rd_T53 q 0).f1 ≠ 41 ∧ (LB (rd_T53 q 0).f0).isSome = true then (FO (rd_T53 q 0).f0, (rd_T53 q 0).f1, (rd_T53 q 0).f2, DOf z, 0) else bad
theorem ev_key {a f : Int} {q : List S53} {x y z : List S51} (hq : 0 < q.length) : Ev (fun k => query_key.f k a f q x y z) (FO (rd_T53 q 0).f0, (rd_T53 q 0).f1, (rd_T53 q 0).f2, false) := by
  unfold query_key.f
  exact ev_pos (by omega) (Ev.bind (ev_fold _) (Ev.now _))
theorem ev_askj {a f : Int} {q : List S53} {x y z : List S51} : Ev (fun k => query_Ask.j0 k true a f q x y z) bad := by
  exact Ev.step (f := fun _ => some bad) (fun k => by simp [query_Ask.j0, bad]) (Ev.now _)
theorem ev_ask {a f : Int} {q : List S53} {x y z : List S51} (h0 : 0 ≤ f) (h1 : f ≤ 65535) (hx : x.length ≤ 1466015503700) (hy : y.length ≤ 1466015503700) (hl : z.length ≤ 1466015503700) (hw : ∀ x ∈ z, k51_wf x) :
    Ev (fun k => query_Ask.f k a f q x y z) (ASK f q x y z) := by
  unfold query_Ask.f ASK
  by_cases c1 : f < 32768
  · refine ev_pos ((qr_iff h0 h1).2 c1) (ev_bind0 (opcode_f h0 h1) ?_)
    by_cases c2 : f / 2048 % 16 = 0
    · refine ev_pos c2 ?_
      by_cases c3 : q.length = 1
      · refine ev_pos (by omega) ?_
        by_cases c4 : x.length + y.length = 0
        · refine ev_neg (by rw [w64 (by omega) (by omega)]; omega) (ev_pos (by omega) ?_)
          by_cases c5 : (rd_T53 q 0).f1 = 41
          · rw [if_neg (fun h => absurd c5 h.2.2.2.2.1), show ((rd_T53 q 0).f1 == 41) = true from beq_iff_eq.2 c5]
            exact ev_askj
          · rw [show ((rd_T53 q 0).f1 == 41) = false from beq_eq_false_iff_ne.2 c5]
            refine Ev.step (fun k => by rw [query_Ask.j0]) ?_
            refine ev_neg (by simp) (Ev.bind (ev_key (by omega)) ?_)
            by_cases c6 : (LB (rd_T53 q 0).f0).isSome = true
            · rw [if_pos ⟨c1, c2, c3, c4, c5, c6⟩]
              exact ev_neg (fun h => (FO_empty _).1 h c6) (Ev.bind (ev_do hl hw) (Ev.now _))
            · rw [if_neg (fun h => c6 h.2.2.2.2.2)]
              exact ev_pos ((FO_empty _).2 c6) (Ev.now _)
        · rw [if_neg (fun h => c4 h.2.2.2.1)]
          exact ev_pos (by rw [w64 (by omega) (by omega)]; omega) ev_askj
      · rw [if_neg (fun h => c3 h.2.2.1)]
        exact ev_neg (by omega) ev_askj
    · rw [if_neg (fun h => c2 h.2.1)]
      exact ev_neg c2 ev_askj
  · rw [if_neg (fun h => c1 h.1)]
    exact ev_neg (fun h => c1 ((qr_iff h0 h1).1 h)) ev_askj
/-! ### does an answer fit -/
def FIT (n : ByteArray) (t c id a f : Int) (q : List S53) : Bool :=
  decide (a = id ∧ 32768 ≤ f ∧ f / 512 % 2 = 0 ∧ f / 2048 % 16 = 0 ∧ q.length = 1) && (decide (FO (rd_T53 q 0).f0 = n) && (decide ((rd_T53 q 0).f1 = t) && decide ((rd_T53 q 0).f2 = c)))
theorem ev_fit (n : ByteArray) (t c : Int) (d : Bool) (id a f : Int) (q : List S53) (x y z : List S51) (h0 : 0 ≤ f) (h1 : f ≤ 65535) : Ev (fun k => query_Fits.f k n t c d id a f q x y z) (FIT n t c id a f q) := by
  unfold query_Fits.f FIT
  by_cases c1 : a = id
  · refine ev_pos c1 ?_
    by_cases c2 : 32768 ≤ f ∧ f / 512 % 2 = 0
    · refine ev_pos ((and_two h0 h1).2 c2) (ev_bind0 (opcode_f h0 h1) ?_)
      by_cases c3 : f / 2048 % 16 = 0
      · refine ev_pos c3 ?_
        by_cases c4 : q.length = 1
        · rw [decide_eq_true (p := a = id ∧ 32768 ≤ f ∧ f / 512 % 2 = 0 ∧ f / 2048 % 16 = 0 ∧ q.length = 1) ⟨c1, c2.1, c2.2, c3, c4⟩]
          refine ev_pos (by omega) (Ev.bind (ev_key (by omega)) (ev_val ?_))
          simp only [beq_dec, Bool.true_and, Bool.not_false, Bool.and_true]
          rfl
        · rw [decide_eq_false (fun h => c4 h.2.2.2.2)]
          exact ev_neg (by omega) (Ev.now _)
      · rw [decide_eq_false (fun h => c3 h.2.2.2.1)]
        exact ev_neg c3 (Ev.now _)
    · rw [decide_eq_false (fun h => c2 ⟨h.2.1, h.2.2.1⟩)]
      exact ev_neg (fun h => c2 ((and_two h0 h1).1 h)) (Ev.now _)
  · rw [decide_eq_false (fun h => c1 h.1)]
    exact ev_neg c1 (Ev.now _)
end Go.Proofs.Ythkdfnbhlinhiaa.Pure
