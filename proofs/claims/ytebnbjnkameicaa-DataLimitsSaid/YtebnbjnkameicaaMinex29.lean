-- Written by this repo's own printer (wip/print), which builds on the kit's.
import Derived.Test.YtebnbjnkameicaaMinex0
import Derived.Test.YtebnbjnkameicaaMinex9
import Derived.Test.YtebnbjnkameicaaMinex13
import Derived.Test.YtebnbjnkameicaaMinex14
import Derived.Test.YtebnbjnkameicaaMinex23
namespace Go.Proofs.Ytebnbjnkameicaa.Mine
open Go.RowKit Go.Proofs.YtebnbjnkameicaaW.PrintWords Go.Proofs.YtebnbjnkameicaaW.PrintLast Go.Proofs.YtebnbjnkameicaaW.PrintMore
attribute [local go_sem] max2_int min2_int max_two min_two max_three min_three max_four min_four   -- for this text's walks alone
set_option linter.unusedVariables false
set_option linter.unusedSimpArgs false

/-! ### nunciolaw05_DataLimits: function 6 (by hand) -/
mutual
def nunciolaw05_DataLimits.j0 : Nat → Int → Bool → ByteArray → Int → Int → Int → List ByteArray → List Int → List ByteArray → Option (Bool)
 | 0, _, _, _, _, _, _, _, _, _ => none
 | k + 1, x1, x19, x366000, x366001, x366002, x366003, x366004, x366005, x366006 => if x19 = true then (some true) else (if x366001 = 41 then (nunciolaw05_DataLimits.j1 k x1 false x366000 x366001 x366002 x366003 x366004 x366005 x366006) else ((rdata_Check.f k x366000 x366001 x366002 (mx x1 2147483648) x366004 x366005 x366006).bind fun t370 => (nunciolaw05_DataLimits.j1 k x1 (t370 != 1) x366000 x366001 x366002 x366003 x366004 x366005 x366006)))
def nunciolaw05_DataLimits.j1 : Nat → Int → Bool → ByteArray → Int → Int → Int → List ByteArray → List Int → List ByteArray → Option (Bool)
 | 0, _, _, _, _, _, _, _, _, _ => none
 | k + 1, x1, x31, x366000, x366001, x366002, x366003, x366004, x366005, x366006 => if x31 = true then (some false) else (if x366000.size + 1 ≤ 9223372036854775807 then ((nunciolaw05_Copied.f x366000 x366001 x366002 x366003 x366004 x366005 x366006).bind fun bt372 => (if bt372.2.2.2.2.1.length < 8796093022208 then ((nunciolaw05_Copied.f x366000 x366001 x366002 x366003 x366004 x366005 x366006).bind fun bt389 => (if bt389.2.2.2.2.2.1.length < 35184372088832 then ((rdata_Check.f k (x366000 ++ (⟨#[120]⟩ : ByteArray)) x366001 x366002 x366003 x366004 x366005 x366006).bind fun t406 => (if t406 = 40 then ((rdata_Check.f k bt372.1 bt372.2.1 bt372.2.2.1 bt372.2.2.2.1 (bt372.2.2.2.2.1 ++ [(⟨#[0]⟩ : ByteArray)]) bt372.2.2.2.2.2.1 bt372.2.2.2.2.2.2).bind fun t407 => (if t407 = 50 then ((rdata_Check.f k bt389.1 bt389.2.1 bt389.2.2.1 bt389.2.2.2.1 bt389.2.2.2.2.1 (bt389.2.2.2.2.2.1 ++ [0]) bt389.2.2.2.2.2.2).bind fun t408 => (nunciolaw05_DataLimits.j2 k x1 (t408 != 50) x366000 x366001 x366002 x366003 x366004 x366005 x366006)) else (nunciolaw05_DataLimits.j2 k x1 true x366000 x366001 x366002 x366003 x366004 x366005 x366006))) else (nunciolaw05_DataLimits.j2 k x1 true x366000 x366001 x366002 x366003 x366004 x366005 x366006))) else (none))) else (none))) else (none))
def nunciolaw05_DataLimits.j2 : Nat → Int → Bool → ByteArray → Int → Int → Int → List ByteArray → List Int → List ByteArray → Option (Bool)
 | 0, _, _, _, _, _, _, _, _, _ => none
 | k + 1, x1, x63, x366000, x366001, x366002, x366003, x366004, x366005, x366006 => if x63 = true then (some false) else ((nunciolaw05_Copied.f x366000 x366001 x366002 x366003 x366004 x366005 x366006).bind fun bt409 => (if (bt409.2.2.2.2.2.1.length : Int) > 0 then (if x366001 = 6 then (some true) else (if 0 < (bt409.2.2.2.2.2.1.length : Int) then ((rdata_Check.f k bt409.1 bt409.2.1 bt409.2.2.1 bt409.2.2.2.1 bt409.2.2.2.2.1 (bt409.2.2.2.2.2.1.set (0 : Int).toNat (mx x1 65536)) bt409.2.2.2.2.2.2).bind fun t424 => (some (t424 == 50))) else (none))) else (some true)))
end
def nunciolaw05_DataLimits.f (k : Nat) (a0_0 : ByteArray) (a0_1 : Int) (a0_2 : Int) (a0_3 : Int) (l0_4 : List ByteArray) (l0_5 : List Int) (l0_6 : List ByteArray) (a1 : Int) : Option (Bool) := (nunciolaw05_awake.f k).bind fun t366 => (if t366 = true then ((nunciolaw05_Few.f k a0_0 a0_1 a0_2 a0_3 l0_4 l0_5 l0_6).bind fun t367 => (if t367 = true then ((rdata_Check.f k a0_0 a0_1 a0_2 a0_3 l0_4 l0_5 l0_6).bind fun t368 => (nunciolaw05_DataLimits.j0 k a1 (t368 != 0) a0_0 a0_1 a0_2 a0_3 l0_4 l0_5 l0_6)) else (nunciolaw05_DataLimits.j0 k a1 true a0_0 a0_1 a0_2 a0_3 l0_4 l0_5 l0_6))) else (some false))
theorem nunciolaw05_DataLimits.mono_l : ∀ k, (∀ y0 y1 y2 y3 y4 y5 y6 y7 y8, LeO (nunciolaw05_DataLimits.j0 k y0 y1 y2 y3 y4 y5 y6 y7 y8) (nunciolaw05_DataLimits.j0 (k + 1) y0 y1 y2 y3 y4 y5 y6 y7 y8)) ∧ (∀ y0 y1 y2 y3 y4 y5 y6 y7 y8, LeO (nunciolaw05_DataLimits.j1 k y0 y1 y2 y3 y4 y5 y6 y7 y8) (nunciolaw05_DataLimits.j1 (k + 1) y0 y1 y2 y3 y4 y5 y6 y7 y8)) ∧ (∀ y0 y1 y2 y3 y4 y5 y6 y7 y8, LeO (nunciolaw05_DataLimits.j2 k y0 y1 y2 y3 y4 y5 y6 y7 y8) (nunciolaw05_DataLimits.j2 (k + 1) y0 y1 y2 y3 y4 y5 y6 y7 y8))
 | 0 => ⟨fun _ _ _ _ _ _ _ _ _ r h => by simp [nunciolaw05_DataLimits.j0] at h, fun _ _ _ _ _ _ _ _ _ r h => by simp [nunciolaw05_DataLimits.j1] at h, fun _ _ _ _ _ _ _ _ _ r h => by simp [nunciolaw05_DataLimits.j2] at h⟩
 | k + 1 => by
  obtain ⟨ih0, ih1, ih2⟩ := nunciolaw05_DataLimits.mono_l k
  refine ⟨?_, ?_, ?_⟩
  ·
   intro y0 y1 y2 y3 y4 y5 y6 y7 y8
   unfold nunciolaw05_DataLimits.j0
   repeat' first
   | (with_reducible exact ih0 _ _ _ _ _ _ _ _ _)
   | (with_reducible exact ih1 _ _ _ _ _ _ _ _ _)
   | (with_reducible exact ih2 _ _ _ _ _ _ _ _ _)
   | (with_reducible exact nunciolaw05_Few.mono _ _ _ _ _ _ _ _)
   | (with_reducible exact nunciolaw05_awake.mono _)
   | (with_reducible exact rdata_Check.mono _ _ _ _ _ _ _ _)
   | (with_reducible exact LeO.refl _)
   | (with_reducible exact LeO.none _)
   | (with_reducible refine LeO.ite ?_ ?_)
   | (with_reducible refine LeO.bind ?_ (fun _ => ?_))
   | exact ih0 _ _ _ _ _ _ _ _ _
   | exact ih1 _ _ _ _ _ _ _ _ _
   | exact ih2 _ _ _ _ _ _ _ _ _
   | exact nunciolaw05_Few.mono _ _ _ _ _ _ _ _
   | exact nunciolaw05_awake.mono _
   | exact rdata_Check.mono _ _ _ _ _ _ _ _
   | exact LeO.none _
   | refine LeO.ite ?_ ?_
   | refine LeO.bind ?_ (fun _ => ?_)
  ·
   intro y0 y1 y2 y3 y4 y5 y6 y7 y8
   unfold nunciolaw05_DataLimits.j1
   repeat' first
   | (with_reducible exact ih0 _ _ _ _ _ _ _ _ _)
   | (with_reducible exact ih1 _ _ _ _ _ _ _ _ _)
   | (with_reducible exact ih2 _ _ _ _ _ _ _ _ _)
   | (with_reducible exact nunciolaw05_Few.mono _ _ _ _ _ _ _ _)
   | (with_reducible exact nunciolaw05_awake.mono _)
   | (with_reducible exact rdata_Check.mono _ _ _ _ _ _ _ _)
   | (with_reducible exact LeO.refl _)
   | (with_reducible exact LeO.none _)
   | (with_reducible refine LeO.ite ?_ ?_)
   | (with_reducible refine LeO.bind ?_ (fun _ => ?_))
   | exact ih0 _ _ _ _ _ _ _ _ _
   | exact ih1 _ _ _ _ _ _ _ _ _
   | exact ih2 _ _ _ _ _ _ _ _ _
   | exact nunciolaw05_Few.mono _ _ _ _ _ _ _ _
   | exact nunciolaw05_awake.mono _
   | exact rdata_Check.mono _ _ _ _ _ _ _ _
   | exact LeO.none _
   | refine LeO.ite ?_ ?_
   | refine LeO.bind ?_ (fun _ => ?_)
  ·
   intro y0 y1 y2 y3 y4 y5 y6 y7 y8
   unfold nunciolaw05_DataLimits.j2
   repeat' first
   | (with_reducible exact ih0 _ _ _ _ _ _ _ _ _)
   | (with_reducible exact ih1 _ _ _ _ _ _ _ _ _)
   | (with_reducible exact ih2 _ _ _ _ _ _ _ _ _)
   | (with_reducible exact nunciolaw05_Few.mono _ _ _ _ _ _ _ _)
   | (with_reducible exact nunciolaw05_awake.mono _)
   | (with_reducible exact rdata_Check.mono _ _ _ _ _ _ _ _)
   | (with_reducible exact LeO.refl _)
   | (with_reducible exact LeO.none _)
   | (with_reducible refine LeO.ite ?_ ?_)
   | (with_reducible refine LeO.bind ?_ (fun _ => ?_))
   | exact ih0 _ _ _ _ _ _ _ _ _
   | exact ih1 _ _ _ _ _ _ _ _ _
   | exact ih2 _ _ _ _ _ _ _ _ _
   | exact nunciolaw05_Few.mono _ _ _ _ _ _ _ _
   | exact nunciolaw05_awake.mono _
   | exact rdata_Check.mono _ _ _ _ _ _ _ _
   | exact LeO.none _
   | refine LeO.ite ?_ ?_
   | refine LeO.bind ?_ (fun _ => ?_)
theorem nunciolaw05_DataLimits.mono : ∀ a0 a1 a2 a3 a4 a5 a6 a7 k, LeO (nunciolaw05_DataLimits.f k a0 a1 a2 a3 a4 a5 a6 a7) (nunciolaw05_DataLimits.f (k + 1) a0 a1 a2 a3 a4 a5 a6 a7) := by
 intro a0 a1 a2 a3 a4 a5 a6 a7 k
 obtain ⟨ih0, ih1, ih2⟩ := nunciolaw05_DataLimits.mono_l k
 unfold nunciolaw05_DataLimits.f
 repeat' first
   | (with_reducible exact ih0 _ _ _ _ _ _ _ _ _)
   | (with_reducible exact ih1 _ _ _ _ _ _ _ _ _)
   | (with_reducible exact ih2 _ _ _ _ _ _ _ _ _)
   | (with_reducible exact nunciolaw05_Few.mono _ _ _ _ _ _ _ _)
   | (with_reducible exact nunciolaw05_awake.mono _)
   | (with_reducible exact rdata_Check.mono _ _ _ _ _ _ _ _)
   | (with_reducible exact LeO.refl _)
   | (with_reducible exact LeO.none _)
   | (with_reducible refine LeO.ite ?_ ?_)
   | (with_reducible refine LeO.bind ?_ (fun _ => ?_))
   | exact ih0 _ _ _ _ _ _ _ _ _
   | exact ih1 _ _ _ _ _ _ _ _ _
   | exact ih2 _ _ _ _ _ _ _ _ _
   | exact nunciolaw05_Few.mono _ _ _ _ _ _ _ _
   | exact nunciolaw05_awake.mono _
   | exact rdata_Check.mono _ _ _ _ _ _ _ _
   | exact LeO.none _
   | refine LeO.ite ?_ ?_
   | refine LeO.bind ?_ (fun _ => ?_)
theorem lim_copied {a0 : ByteArray} {a1 a2 a3 : Int} {l4 : List ByteArray} {l5 : List Int} {l6 : List ByteArray} {b} (h : nunciolaw05_Copied.f a0 a1 a2 a3 l4 l5 l6 = some b) : b = (a0, a1, a2, a3, l4, l5, l6) := by
  unfold nunciolaw05_Copied.f at h
  simp only [Option.bind_some, List.replicate_zero, List.nil_append] at h
  repeat' (split at h)
  all_goals first | exact (Option.some.inj h).symm | exact absurd h (by simp)
theorem lim_j2 {k : Nat} (a0_0 : ByteArray) (a0_1 a0_2 a0_3 : Int) (l0_4 : List ByteArray) (l0_5 : List Int) (l0_6 : List ByteArray) (a1 : Int) {x : Bool} (h : nunciolaw05_DataLimits.j2 k a1 x a0_0 a0_1 a0_2 a0_3 l0_4 l0_5 l0_6 = some true) : x = false ∧ nunciolaw05_Copied.f a0_0 a0_1 a0_2 a0_3 l0_4 l0_5 l0_6 = some (a0_0, a0_1, a0_2, a0_3, l0_4, l0_5, l0_6) ∧ (l0_5.length = 0 ∨ (0 < l0_5.length ∧ (a0_1 = 6 ∨ (a0_1 ≠ 6 ∧ ∃ k, rdata_Check.f k a0_0 a0_1 a0_2 a0_3 l0_4 (l0_5.set (0 : Int).toNat (mx a1 65536)) l0_6 = some 50)))) := by
  cases k with
  | zero => simp [nunciolaw05_DataLimits.j2] at h
  | succ k =>
    cases x with
    | true => simp [nunciolaw05_DataLimits.j2] at h
    | false =>
      rw [nunciolaw05_DataLimits.j2, if_neg (by simp)] at h
      obtain ⟨c, hc, h⟩ := Option.bind_eq_some_iff.mp h
      obtain rfl := lim_copied hc
      refine ⟨rfl, hc, ?_⟩
      simp only at h
      by_cases c1 : (l0_5.length : Int) > 0
      · rw [if_pos c1] at h
        refine Or.inr ⟨by omega, ?_⟩
        by_cases c2 : a0_1 = 6
        · exact Or.inl c2
        · rw [if_neg c2, if_pos (by omega)] at h
          obtain ⟨t, ht, h⟩ := Option.bind_eq_some_iff.mp h
          have : t = 50 := by simpa using h
          subst this
          exact Or.inr ⟨c2, k, ht⟩
      · exact Or.inl (by omega)
theorem lim_j1 {k : Nat} (a0_0 : ByteArray) (a0_1 a0_2 a0_3 : Int) (l0_4 : List ByteArray) (l0_5 : List Int) (l0_6 : List ByteArray) (a1 : Int) {x : Bool} (h : nunciolaw05_DataLimits.j1 k a1 x a0_0 a0_1 a0_2 a0_3 l0_4 l0_5 l0_6 = some true) : x = false ∧ a0_0.size + 1 ≤ 9223372036854775807 ∧ l0_4.length < 8796093022208 ∧ l0_5.length < 35184372088832 ∧ ((∃ k, rdata_Check.f k (a0_0 ++ (⟨#[120]⟩ : ByteArray)) a0_1 a0_2 a0_3 l0_4 l0_5 l0_6 = some 40) ∧ (∃ k, rdata_Check.f k a0_0 a0_1 a0_2 a0_3 (l0_4 ++ [(⟨#[0]⟩ : ByteArray)]) l0_5 l0_6 = some 50) ∧ (∃ k, rdata_Check.f k a0_0 a0_1 a0_2 a0_3 l0_4 (l0_5 ++ [0]) l0_6 = some 50)) ∧ nunciolaw05_Copied.f a0_0 a0_1 a0_2 a0_3 l0_4 l0_5 l0_6 = some (a0_0, a0_1, a0_2, a0_3, l0_4, l0_5, l0_6) ∧ (l0_5.length = 0 ∨ (0 < l0_5.length ∧ (a0_1 = 6 ∨ (a0_1 ≠ 6 ∧ ∃ k, rdata_Check.f k a0_0 a0_1 a0_2 a0_3 l0_4 (l0_5.set (0 : Int).toNat (mx a1 65536)) l0_6 = some 50)))) := by
  cases k with
  | zero => simp [nunciolaw05_DataLimits.j1] at h
  | succ k =>
    cases x with
    | true => simp [nunciolaw05_DataLimits.j1] at h
    | false =>
      rw [nunciolaw05_DataLimits.j1, if_neg (by simp)] at h
      by_cases c1 : a0_0.size + 1 ≤ 9223372036854775807
      · rw [if_pos c1] at h
        obtain ⟨c, hc, h⟩ := Option.bind_eq_some_iff.mp h
        obtain rfl := lim_copied hc
        simp only at h
        by_cases c2 : l0_4.length < 8796093022208
        · rw [if_pos c2, hc, Option.bind_some] at h
          by_cases c3 : l0_5.length < 35184372088832
          · rw [if_pos c3] at h
            obtain ⟨t1, h1, h⟩ := Option.bind_eq_some_iff.mp h
            by_cases e1 : t1 = 40
            · rw [if_pos e1] at h
              obtain ⟨t2, h2, h⟩ := Option.bind_eq_some_iff.mp h
              by_cases e2 : t2 = 50
              · rw [if_pos e2] at h
                obtain ⟨t3, h3, h⟩ := Option.bind_eq_some_iff.mp h
                obtain ⟨e3, hz⟩ := lim_j2 _ _ _ _ _ _ _ _ h
                have e3 : t3 = 50 := by simpa using e3
                subst e1 e2 e3
                exact ⟨rfl, c1, c2, c3, ⟨⟨k, h1⟩, ⟨k, h2⟩, ⟨k, h3⟩⟩, hz⟩
              · rw [if_neg e2] at h
                exact absurd (lim_j2 _ _ _ _ _ _ _ _ h).1 (by simp)
            · rw [if_neg e1] at h
              exact absurd (lim_j2 _ _ _ _ _ _ _ _ h).1 (by simp)
          · rw [if_neg c3] at h; exact absurd h (by simp)
        · rw [if_neg c2] at h; exact absurd h (by simp)
      · rw [if_neg c1] at h; exact absurd h (by simp)
theorem lim_facts {k : Nat} (a0_0 : ByteArray) (a0_1 a0_2 a0_3 : Int) (l0_4 : List ByteArray) (l0_5 : List Int) (l0_6 : List ByteArray) (a1 : Int) (h : nunciolaw05_DataLimits.f k a0_0 a0_1 a0_2 a0_3 l0_4 l0_5 l0_6 a1 = some true) : nunciolaw05_awake.f k = some true ∧ (nunciolaw05_Few.f k a0_0 a0_1 a0_2 a0_3 l0_4 l0_5 l0_6 = some false ∨ (nunciolaw05_Few.f k a0_0 a0_1 a0_2 a0_3 l0_4 l0_5 l0_6 = some true ∧ ∃ t, rdata_Check.f k a0_0 a0_1 a0_2 a0_3 l0_4 l0_5 l0_6 = some t ∧ (t ≠ 0 ∨ (t = 0 ∧ (a0_1 = 41 ∨ (a0_1 ≠ 41 ∧ ∃ k, rdata_Check.f k a0_0 a0_1 a0_2 (mx a1 2147483648) l0_4 l0_5 l0_6 = some 1)) ∧ a0_0.size + 1 ≤ 9223372036854775807 ∧ l0_4.length < 8796093022208 ∧ l0_5.length < 35184372088832 ∧ ((∃ k, rdata_Check.f k (a0_0 ++ (⟨#[120]⟩ : ByteArray)) a0_1 a0_2 a0_3 l0_4 l0_5 l0_6 = some 40) ∧ (∃ k, rdata_Check.f k a0_0 a0_1 a0_2 a0_3 (l0_4 ++ [(⟨#[0]⟩ : ByteArray)]) l0_5 l0_6 = some 50) ∧ (∃ k, rdata_Check.f k a0_0 a0_1 a0_2 a0_3 l0_4 (l0_5 ++ [0]) l0_6 = some 50)) ∧ nunciolaw05_Copied.f a0_0 a0_1 a0_2 a0_3 l0_4 l0_5 l0_6 = some (a0_0, a0_1, a0_2, a0_3, l0_4, l0_5, l0_6) ∧ (l0_5.length = 0 ∨ (0 < l0_5.length ∧ (a0_1 = 6 ∨ (a0_1 ≠ 6 ∧ ∃ k, rdata_Check.f k a0_0 a0_1 a0_2 a0_3 l0_4 (l0_5.set (0 : Int).toNat (mx a1 65536)) l0_6 = some 50)))))))) := by
  unfold nunciolaw05_DataLimits.f at h
  obtain ⟨t, ha, h⟩ := Option.bind_eq_some_iff.mp h
  cases t with
  | false => exact absurd h (by simp)
  | true =>
    rw [if_pos rfl] at h
    refine ⟨ha, ?_⟩
    obtain ⟨t1, hf, h⟩ := Option.bind_eq_some_iff.mp h
    cases t1 with
    | false => exact Or.inl hf
    | true =>
      rw [if_pos rfl] at h
      obtain ⟨t2, hc, h⟩ := Option.bind_eq_some_iff.mp h
      refine Or.inr ⟨hf, t2, hc, ?_⟩
      by_cases c2 : t2 = 0
      · refine Or.inr ⟨c2, ?_⟩
        subst c2
        cases k with
        | zero => simp [nunciolaw05_DataLimits.j0] at h
        | succ k =>
          rw [show ((0 : Int) != 0) = false by rfl, nunciolaw05_DataLimits.j0, if_neg (by simp)] at h
          by_cases c3 : a0_1 = 41
          · rw [if_pos c3] at h
            exact ⟨Or.inl c3, (lim_j1 _ _ _ _ _ _ _ _ h).2⟩
          · rw [if_neg c3] at h
            obtain ⟨t3, h3, h⟩ := Option.bind_eq_some_iff.mp h
            obtain ⟨e, hz⟩ := lim_j1 _ _ _ _ _ _ _ _ h
            have e : t3 = 1 := by simpa using e
            subst e
            exact ⟨Or.inr ⟨c3, k, h3⟩, hz⟩
      · exact Or.inl c2
theorem lim_last (k : Nat) (a0_0 : ByteArray) (a0_1 a0_2 a0_3 : Int) (A4 : Option Addr) (c4 : Nat) (l4 : List ByteArray) (A5 : Option Addr) (c5 : Nat) (l5 : List Int) (y : Int) (A6 : Option Addr) (c6 : Nat) (l6 : List ByteArray) (r : Int) (w : World)
    (h4 : Kd.C Kd.string w A4 l4.length l4) (g4 : l4.length ≤ c4) (h5 : Kd.C (Kd.int .u32) w A5 (l5.set (0 : Int).toNat y).length (l5.set (0 : Int).toNat y)) (g5 : l5.length ≤ c5) (h6 : Kd.C Kd.string w A6 l6.length l6) (g6 : l6.length ≤ c6) (h : rdata_Check.f k a0_0 a0_1 a0_2 a0_3 l4 (l5.set (0 : Int).toNat y) l6 = some r) :
    Calls Try.prog 11 #[.agg #[.string a0_0, .int .u16 a0_1, .int .u16 a0_2, .int .u32 a0_3, .slice A4 l4.length c4, .slice A5 l5.length c5, .slice A6 l6.length c6]] w fun e w' => e = .returned (.int .i64 r) ∧ Below w.heap.size w w' := by
  have := rdata_Check.calls k a0_0 a0_1 a0_2 a0_3 A4 c4 l4 A5 c5 (l5.set (0 : Int).toNat y) A6 c6 l6 r w h4 g4 h5 (by rw [List.length_set]; exact g5) h6 g6 h
  rw [List.length_set] at this
  exact this
set_option maxHeartbeats 4000000 in
set_option maxRecDepth 100000 in
theorem nunciolaw05_DataLimits.calls (k : Nat) (a0_0 : ByteArray) (a0_1 : Int) (a0_2 : Int) (a0_3 : Int) (A0_4 : Option Addr) (c0_4 : Nat) (l0_4 : List ByteArray) (A0_5 : Option Addr) (c0_5 : Nat) (l0_5 : List Int) (A0_6 : Option Addr) (c0_6 : Nat) (l0_6 : List ByteArray) (a1 : Int) (r : Bool) (w : World) (hr0_4 : Kd.C Kd.string w A0_4 l0_4.length l0_4) (hc0_4 : l0_4.length ≤ c0_4) (hr0_5 : Kd.C (Kd.int .u32) w A0_5 l0_5.length l0_5) (hc0_5 : l0_5.length ≤ c0_5) (hr0_6 : Kd.C Kd.string w A0_6 l0_6.length l0_6) (hc0_6 : l0_6.length ≤ c0_6) (h : nunciolaw05_DataLimits.f k a0_0 a0_1 a0_2 a0_3 l0_4 l0_5 l0_6 a1 = some r) (hT : r = true) :
    Calls Try.prog 6 #[.agg #[.string a0_0, .int .u16 a0_1, .int .u16 a0_2, .int .u32 a0_3, .slice A0_4 l0_4.length c0_4, .slice A0_5 l0_5.length c0_5, .slice A0_6 l0_6.length c0_6], .int .u32 a1] w fun e w' => e = .returned (.bool r) ∧ Below w.heap.size w w' := by
  subst hT
  obtain ⟨ha, FA⟩ := lim_facts _ _ _ _ _ _ _ _ h
  clear h
  have hu27 := Try.underlying27
  have HB := Aside0.mk (Below.refl w.heap.size w)
  have HR4 := Aside0.mk hr0_4
  have HC4 := Aside0.mk hc0_4
  clear hr0_4 hc0_4
  have HR5 := Aside0.mk hr0_5
  have HC5 := Aside0.mk hc0_5
  clear hr0_5 hc0_5
  have HR6 := Aside0.mk hr0_6
  have HC6 := Aside0.mk hc0_6
  clear hr0_6 hc0_6
  have HA := Aside0.mk ha
  clear ha
  rcases FA with hf | ⟨hf, t, hk, hm | ⟨rfl, hm⟩⟩
  · have HF := Aside0.mk hf
    clear hf
    go_enter Try.func6, Try.ntmps6
    go_wp2_with (first | ((with_reducible refine gate_dst (N := 2) rfl ?_); refine box_event ?hg (N := 2) ?hd (cs := #[.string a0_0, .int .u16 a0_1, .int .u16 a0_2, .int .u32 a0_3, .slice A0_4 l0_4.length c0_4, .slice A0_5 l0_5.length c0_5, .slice A0_6 l0_6.length c0_6]) (t := 27) ?hr ?_; (case hd => rfl); (case hg => rfl); (case hr => first | (go_simp; done) | (go_simp; rfl)); intro g2 hg w1 hbox hb; have yg2_0 : w1.cell? ⟨g2, 0, none⟩ = some (.string a0_0) := (blk_cell hbox 0).trans rfl; have yg2_1 : w1.cell? ⟨g2, 1, none⟩ = some (.int .u16 a0_1) := (blk_cell hbox 1).trans rfl; have yg2_2 : w1.cell? ⟨g2, 2, none⟩ = some (.int .u16 a0_2) := (blk_cell hbox 2).trans rfl; have yg2_3 : w1.cell? ⟨g2, 3, none⟩ = some (.int .u32 a0_3) := (blk_cell hbox 3).trans rfl; have yg2_4 : w1.cell? ⟨g2, 4, none⟩ = some (.slice A0_4 l0_4.length c0_4) := (blk_cell hbox 4).trans rfl; have yg2_5 : w1.cell? ⟨g2, 5, none⟩ = some (.slice A0_5 l0_5.length c0_5) := (blk_cell hbox 5).trans rfl; have yg2_6 : w1.cell? ⟨g2, 6, none⟩ = some (.slice A0_6 l0_6.length c0_6) := (blk_cell hbox 6).trans rfl; have fg2_0 := blk_frozen hbox 0; have fg2_1 := blk_frozen hbox 1; have fg2_2 := blk_frozen hbox 2; have fg2_3 := blk_frozen hbox 3; have fg2_4 := blk_frozen hbox 4; have fg2_5 := blk_frozen hbox 5; have fg2_6 := blk_frozen hbox 6; have BQ := Aside0.mk hbox; have GE := Aside0.mk (show w.heap.size ≤ g2 by rw [hg]; exact HB.out.size); have n3_ := Aside0.mk (below_step HB.out hb); clear hbox hb hg HB; have HB := n3_; clear n3_; have HQ := Aside0.mk (Below.refl w1.heap.size w1); clear GE fg2_0 fg2_1 fg2_2 fg2_3 fg2_4 fg2_5 fg2_6) | ((with_reducible refine gate_callee (f := 7) rfl ?_); refine goesL_ (some 10) rfl rfl Try.func7 (by kernel_rfl) rfl #[] rfl (by (try simp only [List.map_toArray, List.map_cons, List.map_nil]); first | done | rfl) ?_; (with_reducible refine (nunciolaw05_awake.calls k true _ HA.out).mono ?_); rintro e w2 ⟨rfl, hb⟩; refine ⟨_, rfl, ?_⟩; have n1_ := Aside0.mk (below_step HQ.out hb); clear HQ hb yg2_0 yg2_1 yg2_2 yg2_3 yg2_4 yg2_5 yg2_6; have HQ := n1_; clear n1_; have zg2_0 : w2.cell? ⟨g2, 0, none⟩ = some (.string a0_0) := (blk_cell (blk_below BQ.out HQ.out) 0).trans rfl; have zg2_1 : w2.cell? ⟨g2, 1, none⟩ = some (.int .u16 a0_1) := (blk_cell (blk_below BQ.out HQ.out) 1).trans rfl; have zg2_2 : w2.cell? ⟨g2, 2, none⟩ = some (.int .u16 a0_2) := (blk_cell (blk_below BQ.out HQ.out) 2).trans rfl; have zg2_3 : w2.cell? ⟨g2, 3, none⟩ = some (.int .u32 a0_3) := (blk_cell (blk_below BQ.out HQ.out) 3).trans rfl; have zg2_4 : w2.cell? ⟨g2, 4, none⟩ = some (.slice A0_4 l0_4.length c0_4) := (blk_cell (blk_below BQ.out HQ.out) 4).trans rfl; have zg2_5 : w2.cell? ⟨g2, 5, none⟩ = some (.slice A0_5 l0_5.length c0_5) := (blk_cell (blk_below BQ.out HQ.out) 5).trans rfl; have zg2_6 : w2.cell? ⟨g2, 6, none⟩ = some (.slice A0_6 l0_6.length c0_6) := (blk_cell (blk_below BQ.out HQ.out) 6).trans rfl) | ((with_reducible refine gate_callee (f := 8) rfl ?_); refine goesL_ (some 13) rfl rfl Try.func8 (by kernel_rfl) rfl #[.agg #[.string a0_0, .int .u16 a0_1, .int .u16 a0_2, .int .u32 a0_3, .slice A0_4 l0_4.length c0_4, .slice A0_5 l0_5.length c0_5, .slice A0_6 l0_6.length c0_6]] rfl (by (try simp only [List.map_toArray, List.map_cons, List.map_nil]); first | done | rfl) ?_; (with_reducible refine (nunciolaw05_Few.calls k a0_0 a0_1 a0_2 a0_3 A0_4 c0_4 l0_4 A0_5 c0_5 l0_5 A0_6 c0_6 l0_6 false _ (Kd.C_below HR4.out (below_step HB.out HQ.out)) HC4.out (Kd.C_below HR5.out (below_step HB.out HQ.out)) HC5.out (Kd.C_below HR6.out (below_step HB.out HQ.out)) HC6.out HF.out).mono ?_); rintro e w3 ⟨rfl, hb⟩; refine ⟨_, rfl, ?_⟩; have n1_ := Aside0.mk (below_step HQ.out hb); clear HQ hb zg2_0 zg2_1 zg2_2 zg2_3 zg2_4 zg2_5 zg2_6; have HQ := n1_; clear n1_; have zg2_0 : w3.cell? ⟨g2, 0, none⟩ = some (.string a0_0) := (blk_cell (blk_below BQ.out HQ.out) 0).trans rfl; have zg2_1 : w3.cell? ⟨g2, 1, none⟩ = some (.int .u16 a0_1) := (blk_cell (blk_below BQ.out HQ.out) 1).trans rfl; have zg2_2 : w3.cell? ⟨g2, 2, none⟩ = some (.int .u16 a0_2) := (blk_cell (blk_below BQ.out HQ.out) 2).trans rfl; have zg2_3 : w3.cell? ⟨g2, 3, none⟩ = some (.int .u32 a0_3) := (blk_cell (blk_below BQ.out HQ.out) 3).trans rfl; have zg2_4 : w3.cell? ⟨g2, 4, none⟩ = some (.slice A0_4 l0_4.length c0_4) := (blk_cell (blk_below BQ.out HQ.out) 4).trans rfl; have zg2_5 : w3.cell? ⟨g2, 5, none⟩ = some (.slice A0_5 l0_5.length c0_5) := (blk_cell (blk_below BQ.out HQ.out) 5).trans rfl; have zg2_6 : w3.cell? ⟨g2, 6, none⟩ = some (.slice A0_6 l0_6.length c0_6) := (blk_cell (blk_below BQ.out HQ.out) 6).trans rfl))
    go_ret
    exact ⟨rfl, below_step HB.out HQ.out⟩
  · have HF := Aside0.mk hf
    have HK := Aside0.mk hk
    clear hf hk
    have tb : (t != 0) = true := bne_iff_ne.mpr hm
    clear hm
    go_enter Try.func6, Try.ntmps6
    go_wp2_with (first | ((with_reducible refine gate_dst (N := 2) rfl ?_); refine box_event ?hg (N := 2) ?hd (cs := #[.string a0_0, .int .u16 a0_1, .int .u16 a0_2, .int .u32 a0_3, .slice A0_4 l0_4.length c0_4, .slice A0_5 l0_5.length c0_5, .slice A0_6 l0_6.length c0_6]) (t := 27) ?hr ?_; (case hd => rfl); (case hg => rfl); (case hr => first | (go_simp; done) | (go_simp; rfl)); intro g2 hg w1 hbox hb; have yg2_0 : w1.cell? ⟨g2, 0, none⟩ = some (.string a0_0) := (blk_cell hbox 0).trans rfl; have yg2_1 : w1.cell? ⟨g2, 1, none⟩ = some (.int .u16 a0_1) := (blk_cell hbox 1).trans rfl; have yg2_2 : w1.cell? ⟨g2, 2, none⟩ = some (.int .u16 a0_2) := (blk_cell hbox 2).trans rfl; have yg2_3 : w1.cell? ⟨g2, 3, none⟩ = some (.int .u32 a0_3) := (blk_cell hbox 3).trans rfl; have yg2_4 : w1.cell? ⟨g2, 4, none⟩ = some (.slice A0_4 l0_4.length c0_4) := (blk_cell hbox 4).trans rfl; have yg2_5 : w1.cell? ⟨g2, 5, none⟩ = some (.slice A0_5 l0_5.length c0_5) := (blk_cell hbox 5).trans rfl; have yg2_6 : w1.cell? ⟨g2, 6, none⟩ = some (.slice A0_6 l0_6.length c0_6) := (blk_cell hbox 6).trans rfl; have fg2_0 := blk_frozen hbox 0; have fg2_1 := blk_frozen hbox 1; have fg2_2 := blk_frozen hbox 2; have fg2_3 := blk_frozen hbox 3; have fg2_4 := blk_frozen hbox 4; have fg2_5 := blk_frozen hbox 5; have fg2_6 := blk_frozen hbox 6; have BQ := Aside0.mk hbox; have GE := Aside0.mk (show w.heap.size ≤ g2 by rw [hg]; exact HB.out.size); have n3_ := Aside0.mk (below_step HB.out hb); clear hbox hb hg HB; have HB := n3_; clear n3_; have HQ := Aside0.mk (Below.refl w1.heap.size w1); clear GE fg2_0 fg2_1 fg2_2 fg2_3 fg2_4 fg2_5 fg2_6) | ((with_reducible refine gate_callee (f := 7) rfl ?_); refine goesL_ (some 10) rfl rfl Try.func7 (by kernel_rfl) rfl #[] rfl (by (try simp only [List.map_toArray, List.map_cons, List.map_nil]); first | done | rfl) ?_; (with_reducible refine (nunciolaw05_awake.calls k true _ HA.out).mono ?_); rintro e w2 ⟨rfl, hb⟩; refine ⟨_, rfl, ?_⟩; have n1_ := Aside0.mk (below_step HQ.out hb); clear HQ hb yg2_0 yg2_1 yg2_2 yg2_3 yg2_4 yg2_5 yg2_6; have HQ := n1_; clear n1_; have zg2_0 : w2.cell? ⟨g2, 0, none⟩ = some (.string a0_0) := (blk_cell (blk_below BQ.out HQ.out) 0).trans rfl; have zg2_1 : w2.cell? ⟨g2, 1, none⟩ = some (.int .u16 a0_1) := (blk_cell (blk_below BQ.out HQ.out) 1).trans rfl; have zg2_2 : w2.cell? ⟨g2, 2, none⟩ = some (.int .u16 a0_2) := (blk_cell (blk_below BQ.out HQ.out) 2).trans rfl; have zg2_3 : w2.cell? ⟨g2, 3, none⟩ = some (.int .u32 a0_3) := (blk_cell (blk_below BQ.out HQ.out) 3).trans rfl; have zg2_4 : w2.cell? ⟨g2, 4, none⟩ = some (.slice A0_4 l0_4.length c0_4) := (blk_cell (blk_below BQ.out HQ.out) 4).trans rfl; have zg2_5 : w2.cell? ⟨g2, 5, none⟩ = some (.slice A0_5 l0_5.length c0_5) := (blk_cell (blk_below BQ.out HQ.out) 5).trans rfl; have zg2_6 : w2.cell? ⟨g2, 6, none⟩ = some (.slice A0_6 l0_6.length c0_6) := (blk_cell (blk_below BQ.out HQ.out) 6).trans rfl) | ((with_reducible refine gate_callee (f := 8) rfl ?_); refine goesL_ (some 13) rfl rfl Try.func8 (by kernel_rfl) rfl #[.agg #[.string a0_0, .int .u16 a0_1, .int .u16 a0_2, .int .u32 a0_3, .slice A0_4 l0_4.length c0_4, .slice A0_5 l0_5.length c0_5, .slice A0_6 l0_6.length c0_6]] rfl (by (try simp only [List.map_toArray, List.map_cons, List.map_nil]); first | done | rfl) ?_; (with_reducible refine (nunciolaw05_Few.calls k a0_0 a0_1 a0_2 a0_3 A0_4 c0_4 l0_4 A0_5 c0_5 l0_5 A0_6 c0_6 l0_6 true _ (Kd.C_below HR4.out (below_step HB.out HQ.out)) HC4.out (Kd.C_below HR5.out (below_step HB.out HQ.out)) HC5.out (Kd.C_below HR6.out (below_step HB.out HQ.out)) HC6.out HF.out).mono ?_); rintro e w3 ⟨rfl, hb⟩; refine ⟨_, rfl, ?_⟩; have n1_ := Aside0.mk (below_step HQ.out hb); clear HQ hb zg2_0 zg2_1 zg2_2 zg2_3 zg2_4 zg2_5 zg2_6; have HQ := n1_; clear n1_; have zg2_0 : w3.cell? ⟨g2, 0, none⟩ = some (.string a0_0) := (blk_cell (blk_below BQ.out HQ.out) 0).trans rfl; have zg2_1 : w3.cell? ⟨g2, 1, none⟩ = some (.int .u16 a0_1) := (blk_cell (blk_below BQ.out HQ.out) 1).trans rfl; have zg2_2 : w3.cell? ⟨g2, 2, none⟩ = some (.int .u16 a0_2) := (blk_cell (blk_below BQ.out HQ.out) 2).trans rfl; have zg2_3 : w3.cell? ⟨g2, 3, none⟩ = some (.int .u32 a0_3) := (blk_cell (blk_below BQ.out HQ.out) 3).trans rfl; have zg2_4 : w3.cell? ⟨g2, 4, none⟩ = some (.slice A0_4 l0_4.length c0_4) := (blk_cell (blk_below BQ.out HQ.out) 4).trans rfl; have zg2_5 : w3.cell? ⟨g2, 5, none⟩ = some (.slice A0_5 l0_5.length c0_5) := (blk_cell (blk_below BQ.out HQ.out) 5).trans rfl; have zg2_6 : w3.cell? ⟨g2, 6, none⟩ = some (.slice A0_6 l0_6.length c0_6) := (blk_cell (blk_below BQ.out HQ.out) 6).trans rfl) | (go_at_call 11; (with_reducible refine (rdata_Check.calls k a0_0 a0_1 a0_2 a0_3 A0_4 c0_4 l0_4 A0_5 c0_5 l0_5 A0_6 c0_6 l0_6 _ _ (Kd.C_below HR4.out (below_step HB.out HQ.out)) HC4.out (Kd.C_below HR5.out (below_step HB.out HQ.out)) HC5.out (Kd.C_below HR6.out (below_step HB.out HQ.out)) HC6.out HK.out).mono ?_); rintro e w4 ⟨rfl, hb⟩; have n1_ := Aside0.mk (below_step HQ.out hb); clear HQ hb zg2_0 zg2_1 zg2_2 zg2_3 zg2_4 zg2_5 zg2_6; have HQ := n1_; clear n1_; have zg2_0 : w4.cell? ⟨g2, 0, none⟩ = some (.string a0_0) := (blk_cell (blk_below BQ.out HQ.out) 0).trans rfl; have zg2_1 : w4.cell? ⟨g2, 1, none⟩ = some (.int .u16 a0_1) := (blk_cell (blk_below BQ.out HQ.out) 1).trans rfl; have zg2_2 : w4.cell? ⟨g2, 2, none⟩ = some (.int .u16 a0_2) := (blk_cell (blk_below BQ.out HQ.out) 2).trans rfl; have zg2_3 : w4.cell? ⟨g2, 3, none⟩ = some (.int .u32 a0_3) := (blk_cell (blk_below BQ.out HQ.out) 3).trans rfl; have zg2_4 : w4.cell? ⟨g2, 4, none⟩ = some (.slice A0_4 l0_4.length c0_4) := (blk_cell (blk_below BQ.out HQ.out) 4).trans rfl; have zg2_5 : w4.cell? ⟨g2, 5, none⟩ = some (.slice A0_5 l0_5.length c0_5) := (blk_cell (blk_below BQ.out HQ.out) 5).trans rfl; have zg2_6 : w4.cell? ⟨g2, 6, none⟩ = some (.slice A0_6 l0_6.length c0_6) := (blk_cell (blk_below BQ.out HQ.out) 6).trans rfl))
    go_ret
    exact ⟨rfl, below_step HB.out HQ.out⟩
  · have HF := Aside0.mk hf
    have HK := Aside0.mk hk
    clear hf hk
    obtain ⟨h41, hs0, hs4, hs5, ⟨⟨k1, hk1⟩, ⟨k2, hk2⟩, ⟨k3, hk3⟩⟩, hcp, hlast⟩ := hm
    have HS0 := Aside0.mk hs0; have HS4 := Aside0.mk hs4; have HS5 := Aside0.mk hs5; have K1 := Aside0.mk hk1; have K2 := Aside0.mk hk2; have K3 := Aside0.mk hk3; have HP := Aside0.mk hcp; have HL := Aside0.mk hlast
    clear hs0 hs4 hs5 hk1 hk2 hk3 hcp hlast
    obtain ⟨ns, hns⟩ : ∃ x, x = l0_4 ++ [(⟨#[0]⟩ : ByteArray)] := ⟨_, rfl⟩
    obtain ⟨us, hus⟩ : ∃ x, x = l0_5 ++ [(0 : Int)] := ⟨_, rfl⟩
    have NS := Aside0.mk hns; have US := Aside0.mk hus; clear hns hus
    have K2b := K2.out; rw [← NS.out] at K2b; have K2 := Aside0.mk K2b; clear K2b
    have K3b := K3.out; rw [← US.out] at K3b; have K3 := Aside0.mk K3b; clear K3b
    obtain ⟨M1, hM1⟩ : ∃ x, mx a1 2147483648 = x := ⟨_, rfl⟩
    have M1d := Aside0.mk hM1
    have hM1_ : (if a1 < 2147483648 then 2147483648 else a1) = M1 := hM1
    obtain ⟨M2, hM2⟩ : ∃ x, mx a1 65536 = x := ⟨_, rfl⟩
    have M2d := Aside0.mk hM2
    have hM2_ : (if a1 < 65536 then 65536 else a1) = M2 := hM2
    clear hM1 hM2
    go_enter Try.func6, Try.ntmps6
    go_upto_region 5 with (first | ((with_reducible refine gate_dst (N := 2) rfl ?_); refine box_event ?hg (N := 2) ?hd (cs := #[.string a0_0, .int .u16 a0_1, .int .u16 a0_2, .int .u32 a0_3, .slice A0_4 l0_4.length c0_4, .slice A0_5 l0_5.length c0_5, .slice A0_6 l0_6.length c0_6]) (t := 27) ?hr ?_; (case hd => rfl); (case hg => rfl); (case hr => first | (go_simp; done) | (go_simp; rfl)); intro g2 hg w1 hbox hb; have yg2_0 : w1.cell? ⟨g2, 0, none⟩ = some (.string a0_0) := (blk_cell hbox 0).trans rfl; have yg2_1 : w1.cell? ⟨g2, 1, none⟩ = some (.int .u16 a0_1) := (blk_cell hbox 1).trans rfl; have yg2_2 : w1.cell? ⟨g2, 2, none⟩ = some (.int .u16 a0_2) := (blk_cell hbox 2).trans rfl; have yg2_3 : w1.cell? ⟨g2, 3, none⟩ = some (.int .u32 a0_3) := (blk_cell hbox 3).trans rfl; have yg2_4 : w1.cell? ⟨g2, 4, none⟩ = some (.slice A0_4 l0_4.length c0_4) := (blk_cell hbox 4).trans rfl; have yg2_5 : w1.cell? ⟨g2, 5, none⟩ = some (.slice A0_5 l0_5.length c0_5) := (blk_cell hbox 5).trans rfl; have yg2_6 : w1.cell? ⟨g2, 6, none⟩ = some (.slice A0_6 l0_6.length c0_6) := (blk_cell hbox 6).trans rfl; have fg2_0 := blk_frozen hbox 0; have fg2_1 := blk_frozen hbox 1; have fg2_2 := blk_frozen hbox 2; have fg2_3 := blk_frozen hbox 3; have fg2_4 := blk_frozen hbox 4; have fg2_5 := blk_frozen hbox 5; have fg2_6 := blk_frozen hbox 6; have BQ := Aside0.mk hbox; have GE := Aside0.mk (show w.heap.size ≤ g2 by rw [hg]; exact HB.out.size); have n3_ := Aside0.mk (below_step HB.out hb); clear hbox hb hg HB; have HB := n3_; clear n3_; have HQ := Aside0.mk (Below.refl w1.heap.size w1); clear GE fg2_0 fg2_1 fg2_2 fg2_3 fg2_4 fg2_5 fg2_6) | ((with_reducible refine gate_callee (f := 7) rfl ?_); refine goesL_ (some 10) rfl rfl Try.func7 (by kernel_rfl) rfl #[] rfl (by (try simp only [List.map_toArray, List.map_cons, List.map_nil]); first | done | rfl) ?_; (with_reducible refine (nunciolaw05_awake.calls k true _ HA.out).mono ?_); rintro e w2 ⟨rfl, hb⟩; refine ⟨_, rfl, ?_⟩; have n1_ := Aside0.mk (below_step HQ.out hb); clear HQ hb yg2_0 yg2_1 yg2_2 yg2_3 yg2_4 yg2_5 yg2_6; have HQ := n1_; clear n1_; have zg2_0 : w2.cell? ⟨g2, 0, none⟩ = some (.string a0_0) := (blk_cell (blk_below BQ.out HQ.out) 0).trans rfl; have zg2_1 : w2.cell? ⟨g2, 1, none⟩ = some (.int .u16 a0_1) := (blk_cell (blk_below BQ.out HQ.out) 1).trans rfl; have zg2_2 : w2.cell? ⟨g2, 2, none⟩ = some (.int .u16 a0_2) := (blk_cell (blk_below BQ.out HQ.out) 2).trans rfl; have zg2_3 : w2.cell? ⟨g2, 3, none⟩ = some (.int .u32 a0_3) := (blk_cell (blk_below BQ.out HQ.out) 3).trans rfl; have zg2_4 : w2.cell? ⟨g2, 4, none⟩ = some (.slice A0_4 l0_4.length c0_4) := (blk_cell (blk_below BQ.out HQ.out) 4).trans rfl; have zg2_5 : w2.cell? ⟨g2, 5, none⟩ = some (.slice A0_5 l0_5.length c0_5) := (blk_cell (blk_below BQ.out HQ.out) 5).trans rfl; have zg2_6 : w2.cell? ⟨g2, 6, none⟩ = some (.slice A0_6 l0_6.length c0_6) := (blk_cell (blk_below BQ.out HQ.out) 6).trans rfl) | ((with_reducible refine gate_callee (f := 8) rfl ?_); refine goesL_ (some 13) rfl rfl Try.func8 (by kernel_rfl) rfl #[.agg #[.string a0_0, .int .u16 a0_1, .int .u16 a0_2, .int .u32 a0_3, .slice A0_4 l0_4.length c0_4, .slice A0_5 l0_5.length c0_5, .slice A0_6 l0_6.length c0_6]] rfl (by (try simp only [List.map_toArray, List.map_cons, List.map_nil]); first | done | rfl) ?_; (with_reducible refine (nunciolaw05_Few.calls k a0_0 a0_1 a0_2 a0_3 A0_4 c0_4 l0_4 A0_5 c0_5 l0_5 A0_6 c0_6 l0_6 true _ (Kd.C_below HR4.out (below_step HB.out HQ.out)) HC4.out (Kd.C_below HR5.out (below_step HB.out HQ.out)) HC5.out (Kd.C_below HR6.out (below_step HB.out HQ.out)) HC6.out HF.out).mono ?_); rintro e w3 ⟨rfl, hb⟩; refine ⟨_, rfl, ?_⟩; have n1_ := Aside0.mk (below_step HQ.out hb); clear HQ hb zg2_0 zg2_1 zg2_2 zg2_3 zg2_4 zg2_5 zg2_6; have HQ := n1_; clear n1_; have zg2_0 : w3.cell? ⟨g2, 0, none⟩ = some (.string a0_0) := (blk_cell (blk_below BQ.out HQ.out) 0).trans rfl; have zg2_1 : w3.cell? ⟨g2, 1, none⟩ = some (.int .u16 a0_1) := (blk_cell (blk_below BQ.out HQ.out) 1).trans rfl; have zg2_2 : w3.cell? ⟨g2, 2, none⟩ = some (.int .u16 a0_2) := (blk_cell (blk_below BQ.out HQ.out) 2).trans rfl; have zg2_3 : w3.cell? ⟨g2, 3, none⟩ = some (.int .u32 a0_3) := (blk_cell (blk_below BQ.out HQ.out) 3).trans rfl; have zg2_4 : w3.cell? ⟨g2, 4, none⟩ = some (.slice A0_4 l0_4.length c0_4) := (blk_cell (blk_below BQ.out HQ.out) 4).trans rfl; have zg2_5 : w3.cell? ⟨g2, 5, none⟩ = some (.slice A0_5 l0_5.length c0_5) := (blk_cell (blk_below BQ.out HQ.out) 5).trans rfl; have zg2_6 : w3.cell? ⟨g2, 6, none⟩ = some (.slice A0_6 l0_6.length c0_6) := (blk_cell (blk_below BQ.out HQ.out) 6).trans rfl) | (go_at_call 11; (with_reducible refine (rdata_Check.calls k a0_0 a0_1 a0_2 a0_3 A0_4 c0_4 l0_4 A0_5 c0_5 l0_5 A0_6 c0_6 l0_6 _ _ (Kd.C_below HR4.out (below_step HB.out HQ.out)) HC4.out (Kd.C_below HR5.out (below_step HB.out HQ.out)) HC5.out (Kd.C_below HR6.out (below_step HB.out HQ.out)) HC6.out HK.out).mono ?_); rintro e w4 ⟨rfl, hb⟩; have n1_ := Aside0.mk (below_step HQ.out hb); clear HQ hb zg2_0 zg2_1 zg2_2 zg2_3 zg2_4 zg2_5 zg2_6; have HQ := n1_; clear n1_; have zg2_0 : w4.cell? ⟨g2, 0, none⟩ = some (.string a0_0) := (blk_cell (blk_below BQ.out HQ.out) 0).trans rfl; have zg2_1 : w4.cell? ⟨g2, 1, none⟩ = some (.int .u16 a0_1) := (blk_cell (blk_below BQ.out HQ.out) 1).trans rfl; have zg2_2 : w4.cell? ⟨g2, 2, none⟩ = some (.int .u16 a0_2) := (blk_cell (blk_below BQ.out HQ.out) 2).trans rfl; have zg2_3 : w4.cell? ⟨g2, 3, none⟩ = some (.int .u32 a0_3) := (blk_cell (blk_below BQ.out HQ.out) 3).trans rfl; have zg2_4 : w4.cell? ⟨g2, 4, none⟩ = some (.slice A0_4 l0_4.length c0_4) := (blk_cell (blk_below BQ.out HQ.out) 4).trans rfl; have zg2_5 : w4.cell? ⟨g2, 5, none⟩ = some (.slice A0_5 l0_5.length c0_5) := (blk_cell (blk_below BQ.out HQ.out) 5).trans rfl; have zg2_6 : w4.cell? ⟨g2, 6, none⟩ = some (.slice A0_6 l0_6.length c0_6) := (blk_cell (blk_below BQ.out HQ.out) 6).trans rfl))
    have n1_ := Aside0.mk (blk_below BQ.out HQ.out); clear BQ; have BKg2 := n1_; clear n1_
    have n1_ := Aside0.mk (below_step HB.out HQ.out); clear HB HQ; have HB := n1_; clear n1_
    have HQ := Aside0.mk (Below.refl w4.heap.size w4)
    go_upto_region 6 with (first | ((with_reducible refine gate_dst (N := 5) rfl ?_); refine box_event ?hg (N := 5) ?hd (cs := #[.string (⟨#[]⟩ : ByteArray), .int .u16 0, .int .u16 0, .int .u32 0, .slice none 0 0, .slice none 0 0, .slice none 0 0]) (t := 27) ?hr ?_; (case hd => rfl); (case hg => rfl); (case hr => first | (go_simp; done) | (go_simp; rfl)); intro g5 hg w5 hbox hb; have yg5_0 : w5.cell? ⟨g5, 0, none⟩ = some (.string (⟨#[]⟩ : ByteArray)) := (blk_cell hbox 0).trans rfl; have yg5_1 : w5.cell? ⟨g5, 1, none⟩ = some (.int .u16 0) := (blk_cell hbox 1).trans rfl; have yg5_2 : w5.cell? ⟨g5, 2, none⟩ = some (.int .u16 0) := (blk_cell hbox 2).trans rfl; have yg5_3 : w5.cell? ⟨g5, 3, none⟩ = some (.int .u32 0) := (blk_cell hbox 3).trans rfl; have yg5_4 : w5.cell? ⟨g5, 4, none⟩ = some (.slice none 0 0) := (blk_cell hbox 4).trans rfl; have yg5_5 : w5.cell? ⟨g5, 5, none⟩ = some (.slice none 0 0) := (blk_cell hbox 5).trans rfl; have yg5_6 : w5.cell? ⟨g5, 6, none⟩ = some (.slice none 0 0) := (blk_cell hbox 6).trans rfl; have fg5_0 := blk_frozen hbox 0; have fg5_1 := blk_frozen hbox 1; have fg5_2 := blk_frozen hbox 2; have fg5_3 := blk_frozen hbox 3; have fg5_4 := blk_frozen hbox 4; have fg5_5 := blk_frozen hbox 5; have fg5_6 := blk_frozen hbox 6; have BQ := Aside0.mk hbox; have GE := Aside0.mk (show w4.heap.size ≤ g5 by rw [hg]; exact HQ.out.size); have n3_ := Aside0.mk (below_step HQ.out hb); clear hbox hb hg HQ; have HQ := n3_; clear n3_))
    (try simp only [Act.put, List.setIfInBounds_toArray, List.set_cons_zero, List.set_cons_succ])
    have n1_ := Aside0.mk (show (((((((w5.setCell ⟨g5, 0, none⟩ (.string a0_0)).setCell ⟨g5, 1, none⟩ (.int .u16 a0_1)).setCell ⟨g5, 2, none⟩ (.int .u16 a0_2)).setCell ⟨g5, 3, none⟩ (.int .u32 a0_3)).setCell ⟨g5, 4, none⟩ (.slice A0_4 l0_4.length c0_4)).setCell ⟨g5, 5, none⟩ (.slice A0_5 l0_5.length c0_5)).setCell ⟨g5, 6, none⟩ (.slice A0_6 l0_6.length c0_6)).heap[g5]? = some (.cells #[.string a0_0, .int .u16 a0_1, .int .u16 a0_2, .int .u32 a0_3, .slice A0_4 l0_4.length c0_4, .slice A0_5 l0_5.length c0_5, .slice A0_6 l0_6.length c0_6] 27 (0, 0)) from (blk_put (blk_put (blk_put (blk_put (blk_put (blk_put (blk_put BQ.out 0 _ rfl) 1 _ rfl) 2 _ rfl) 3 _ rfl) 4 _ rfl) 5 _ rfl) 6 _ rfl))
    have n2_ := Aside0.mk (show Below w4.heap.size w4 (((((((w5.setCell ⟨g5, 0, none⟩ (.string a0_0)).setCell ⟨g5, 1, none⟩ (.int .u16 a0_1)).setCell ⟨g5, 2, none⟩ (.int .u16 a0_2)).setCell ⟨g5, 3, none⟩ (.int .u32 a0_3)).setCell ⟨g5, 4, none⟩ (.slice A0_4 l0_4.length c0_4)).setCell ⟨g5, 5, none⟩ (.slice A0_5 l0_5.length c0_5)).setCell ⟨g5, 6, none⟩ (.slice A0_6 l0_6.length c0_6)) from (below_set (below_set (below_set (below_set (below_set (below_set (below_set HQ.out GE.out) GE.out) GE.out) GE.out) GE.out) GE.out) GE.out))
    clear BQ HQ yg5_0 yg5_1 yg5_2 yg5_3 yg5_4 yg5_5 yg5_6 fg5_0 fg5_1 fg5_2 fg5_3 fg5_4 fg5_5 fg5_6
    generalize (((((((w5.setCell ⟨g5, 0, none⟩ (.string a0_0)).setCell ⟨g5, 1, none⟩ (.int .u16 a0_1)).setCell ⟨g5, 2, none⟩ (.int .u16 a0_2)).setCell ⟨g5, 3, none⟩ (.int .u32 a0_3)).setCell ⟨g5, 4, none⟩ (.slice A0_4 l0_4.length c0_4)).setCell ⟨g5, 5, none⟩ (.slice A0_5 l0_5.length c0_5)).setCell ⟨g5, 6, none⟩ (.slice A0_6 l0_6.length c0_6)) = W5 at n1_ n2_ ⊢
    have BKg5 := n1_
    have HQ := n2_
    clear n1_ n2_
    clear zg2_0 zg2_1 zg2_2 zg2_3 zg2_4 zg2_5 zg2_6
    have NE := Aside0.mk (show g2 ≠ g5 from Nat.ne_of_lt (Nat.lt_of_lt_of_le (blk_lt BKg2.out) GE.out))
    have fg5_0 := blk_frozen BKg5.out 0
    have fg5_1 := blk_frozen BKg5.out 1
    have fg5_2 := blk_frozen BKg5.out 2
    have fg5_3 := blk_frozen BKg5.out 3
    have fg5_4 := blk_frozen BKg5.out 4
    have fg5_5 := blk_frozen BKg5.out 5
    have fg5_6 := blk_frozen BKg5.out 6
    have zg5_0 : W5.cell? ⟨g5, 0, none⟩ = some (.string a0_0) := (blk_cell BKg5.out 0).trans rfl
    have zg5_1 : W5.cell? ⟨g5, 1, none⟩ = some (.int .u16 a0_1) := (blk_cell BKg5.out 1).trans rfl
    have zg5_2 : W5.cell? ⟨g5, 2, none⟩ = some (.int .u16 a0_2) := (blk_cell BKg5.out 2).trans rfl
    have zg5_3 : W5.cell? ⟨g5, 3, none⟩ = some (.int .u32 a0_3) := (blk_cell BKg5.out 3).trans rfl
    have zg5_4 : W5.cell? ⟨g5, 4, none⟩ = some (.slice A0_4 l0_4.length c0_4) := (blk_cell BKg5.out 4).trans rfl
    have zg5_5 : W5.cell? ⟨g5, 5, none⟩ = some (.slice A0_5 l0_5.length c0_5) := (blk_cell BKg5.out 5).trans rfl
    have zg5_6 : W5.cell? ⟨g5, 6, none⟩ = some (.slice A0_6 l0_6.length c0_6) := (blk_cell BKg5.out 6).trans rfl
    go_upto_region 7 with fail
    (try simp only [Act.put, List.setIfInBounds_toArray, List.set_cons_zero, List.set_cons_succ])
    have n1_ := Aside0.mk (show (W5.setCell ⟨g5, 3, none⟩ (.int .u32 M1)).heap[g5]? = some (.cells #[.string a0_0, .int .u16 a0_1, .int .u16 a0_2, .int .u32 M1, .slice A0_4 l0_4.length c0_4, .slice A0_5 l0_5.length c0_5, .slice A0_6 l0_6.length c0_6] 27 (0, 0)) from blk_put BKg5.out 3 _ rfl)
    have n2_ := Aside0.mk (show Below w4.heap.size w4 (W5.setCell ⟨g5, 3, none⟩ (.int .u32 M1)) from below_set HQ.out GE.out)
    clear GE NE zg5_0 zg5_1 zg5_2 zg5_3 zg5_4 zg5_5 zg5_6 fg5_0 fg5_1 fg5_2 fg5_3 fg5_4 fg5_5 fg5_6
    generalize (W5.setCell ⟨g5, 3, none⟩ (.int .u32 M1)) = W6 at n1_ n2_ ⊢
    clear BKg5 HQ
    have BKg5 := n1_
    have HQ := n2_
    clear n1_ n2_
    have n1_ := Aside0.mk (blk_below BKg2.out HQ.out); clear BKg2; have BKg2 := n1_; clear n1_
    have n1_ := Aside0.mk (below_step HB.out HQ.out); clear HB HQ; have HB := n1_; clear n1_
    have HQ := Aside0.mk (Below.refl W6.heap.size W6)
    have zg2_0 : W6.cell? ⟨g2, 0, none⟩ = some (.string a0_0) := (blk_cell BKg2.out 0).trans rfl
    have zg2_1 : W6.cell? ⟨g2, 1, none⟩ = some (.int .u16 a0_1) := (blk_cell BKg2.out 1).trans rfl
    have zg2_2 : W6.cell? ⟨g2, 2, none⟩ = some (.int .u16 a0_2) := (blk_cell BKg2.out 2).trans rfl
    have zg2_3 : W6.cell? ⟨g2, 3, none⟩ = some (.int .u32 a0_3) := (blk_cell BKg2.out 3).trans rfl
    have zg2_4 : W6.cell? ⟨g2, 4, none⟩ = some (.slice A0_4 l0_4.length c0_4) := (blk_cell BKg2.out 4).trans rfl
    have zg2_5 : W6.cell? ⟨g2, 5, none⟩ = some (.slice A0_5 l0_5.length c0_5) := (blk_cell BKg2.out 5).trans rfl
    have zg2_6 : W6.cell? ⟨g2, 6, none⟩ = some (.slice A0_6 l0_6.length c0_6) := (blk_cell BKg2.out 6).trans rfl
    have zg5_0 : W6.cell? ⟨g5, 0, none⟩ = some (.string a0_0) := (blk_cell BKg5.out 0).trans rfl
    have zg5_1 : W6.cell? ⟨g5, 1, none⟩ = some (.int .u16 a0_1) := (blk_cell BKg5.out 1).trans rfl
    have zg5_2 : W6.cell? ⟨g5, 2, none⟩ = some (.int .u16 a0_2) := (blk_cell BKg5.out 2).trans rfl
    have zg5_3 : W6.cell? ⟨g5, 3, none⟩ = some (.int .u32 M1) := (blk_cell BKg5.out 3).trans rfl
    have zg5_4 : W6.cell? ⟨g5, 4, none⟩ = some (.slice A0_4 l0_4.length c0_4) := (blk_cell BKg5.out 4).trans rfl
    have zg5_5 : W6.cell? ⟨g5, 5, none⟩ = some (.slice A0_5 l0_5.length c0_5) := (blk_cell BKg5.out 5).trans rfl
    have zg5_6 : W6.cell? ⟨g5, 6, none⟩ = some (.slice A0_6 l0_6.length c0_6) := (blk_cell BKg5.out 6).trans rfl
    rcases h41 with h41 | ⟨h41, ⟨k0, hk0⟩⟩
    · have c41 : (a0_1 != 41) = false := bne_eq_false_iff_eq.mpr h41
      have H41 := Aside0.mk h41
      clear h41
      go_upto_region 9 with fail
      clear zg2_0 zg2_1 zg2_2 zg2_3 zg2_4 zg2_5 zg2_6 zg5_0 zg5_1 zg5_2 zg5_3 zg5_4 zg5_5 zg5_6
      have zg2_0 : W6.cell? ⟨g2, 0, none⟩ = some (.string a0_0) := (blk_cell BKg2.out 0).trans rfl
      have zg2_1 : W6.cell? ⟨g2, 1, none⟩ = some (.int .u16 a0_1) := (blk_cell BKg2.out 1).trans rfl
      have zg2_2 : W6.cell? ⟨g2, 2, none⟩ = some (.int .u16 a0_2) := (blk_cell BKg2.out 2).trans rfl
      have zg2_3 : W6.cell? ⟨g2, 3, none⟩ = some (.int .u32 a0_3) := (blk_cell BKg2.out 3).trans rfl
      have zg2_4 : W6.cell? ⟨g2, 4, none⟩ = some (.slice A0_4 l0_4.length c0_4) := (blk_cell BKg2.out 4).trans rfl
      have zg2_5 : W6.cell? ⟨g2, 5, none⟩ = some (.slice A0_5 l0_5.length c0_5) := (blk_cell BKg2.out 5).trans rfl
      have zg2_6 : W6.cell? ⟨g2, 6, none⟩ = some (.slice A0_6 l0_6.length c0_6) := (blk_cell BKg2.out 6).trans rfl
      go_upto_region 10 with (first | ((with_reducible refine gate_dst (N := 6) rfl ?_); refine box_event ?hg (N := 6) ?hd (cs := #[.string (⟨#[]⟩ : ByteArray), .int .u16 0, .int .u16 0, .int .u32 0, .slice none 0 0, .slice none 0 0, .slice none 0 0]) (t := 27) ?hr ?_; (case hd => rfl); (case hg => rfl); (case hr => first | (go_simp; done) | (go_simp; rfl)); intro g6 hg w8 hbox hb; have yg6_0 : w8.cell? ⟨g6, 0, none⟩ = some (.string (⟨#[]⟩ : ByteArray)) := (blk_cell hbox 0).trans rfl; have yg6_1 : w8.cell? ⟨g6, 1, none⟩ = some (.int .u16 0) := (blk_cell hbox 1).trans rfl; have yg6_2 : w8.cell? ⟨g6, 2, none⟩ = some (.int .u16 0) := (blk_cell hbox 2).trans rfl; have yg6_3 : w8.cell? ⟨g6, 3, none⟩ = some (.int .u32 0) := (blk_cell hbox 3).trans rfl; have yg6_4 : w8.cell? ⟨g6, 4, none⟩ = some (.slice none 0 0) := (blk_cell hbox 4).trans rfl; have yg6_5 : w8.cell? ⟨g6, 5, none⟩ = some (.slice none 0 0) := (blk_cell hbox 5).trans rfl; have yg6_6 : w8.cell? ⟨g6, 6, none⟩ = some (.slice none 0 0) := (blk_cell hbox 6).trans rfl; have fg6_0 := blk_frozen hbox 0; have fg6_1 := blk_frozen hbox 1; have fg6_2 := blk_frozen hbox 2; have fg6_3 := blk_frozen hbox 3; have fg6_4 := blk_frozen hbox 4; have fg6_5 := blk_frozen hbox 5; have fg6_6 := blk_frozen hbox 6; have BQ := Aside0.mk hbox; have GE := Aside0.mk (show W6.heap.size ≤ g6 by rw [hg]; exact HQ.out.size); have n3_ := Aside0.mk (below_step HQ.out hb); clear hbox hb hg HQ; have HQ := n3_; clear n3_))
      (try simp only [Act.put, List.setIfInBounds_toArray, List.set_cons_zero, List.set_cons_succ])
      have n1_ := Aside0.mk (show (((((((w8.setCell ⟨g6, 0, none⟩ (.string a0_0)).setCell ⟨g6, 1, none⟩ (.int .u16 a0_1)).setCell ⟨g6, 2, none⟩ (.int .u16 a0_2)).setCell ⟨g6, 3, none⟩ (.int .u32 a0_3)).setCell ⟨g6, 4, none⟩ (.slice A0_4 l0_4.length c0_4)).setCell ⟨g6, 5, none⟩ (.slice A0_5 l0_5.length c0_5)).setCell ⟨g6, 6, none⟩ (.slice A0_6 l0_6.length c0_6)).heap[g6]? = some (.cells #[.string a0_0, .int .u16 a0_1, .int .u16 a0_2, .int .u32 a0_3, .slice A0_4 l0_4.length c0_4, .slice A0_5 l0_5.length c0_5, .slice A0_6 l0_6.length c0_6] 27 (0, 0)) from (blk_put (blk_put (blk_put (blk_put (blk_put (blk_put (blk_put BQ.out 0 _ rfl) 1 _ rfl) 2 _ rfl) 3 _ rfl) 4 _ rfl) 5 _ rfl) 6 _ rfl))
      have n2_ := Aside0.mk (show Below W6.heap.size W6 (((((((w8.setCell ⟨g6, 0, none⟩ (.string a0_0)).setCell ⟨g6, 1, none⟩ (.int .u16 a0_1)).setCell ⟨g6, 2, none⟩ (.int .u16 a0_2)).setCell ⟨g6, 3, none⟩ (.int .u32 a0_3)).setCell ⟨g6, 4, none⟩ (.slice A0_4 l0_4.length c0_4)).setCell ⟨g6, 5, none⟩ (.slice A0_5 l0_5.length c0_5)).setCell ⟨g6, 6, none⟩ (.slice A0_6 l0_6.length c0_6)) from (below_set (below_set (below_set (below_set (below_set (below_set (below_set HQ.out GE.out) GE.out) GE.out) GE.out) GE.out) GE.out) GE.out))
      clear BQ HQ yg6_0 yg6_1 yg6_2 yg6_3 yg6_4 yg6_5 yg6_6 fg6_0 fg6_1 fg6_2 fg6_3 fg6_4 fg6_5 fg6_6
      generalize (((((((w8.setCell ⟨g6, 0, none⟩ (.string a0_0)).setCell ⟨g6, 1, none⟩ (.int .u16 a0_1)).setCell ⟨g6, 2, none⟩ (.int .u16 a0_2)).setCell ⟨g6, 3, none⟩ (.int .u32 a0_3)).setCell ⟨g6, 4, none⟩ (.slice A0_4 l0_4.length c0_4)).setCell ⟨g6, 5, none⟩ (.slice A0_5 l0_5.length c0_5)).setCell ⟨g6, 6, none⟩ (.slice A0_6 l0_6.length c0_6)) = W9 at n1_ n2_ ⊢
      have BKg6 := n1_
      have HQ := n2_
      clear n1_ n2_
      clear zg2_0 zg2_1 zg2_2 zg2_3 zg2_4 zg2_5 zg2_6
      have n1_ := Aside0.mk (blk_below BKg2.out HQ.out)
      have zg2_0 : W9.cell? ⟨g2, 0, none⟩ = some (.string a0_0) := (blk_cell n1_.out 0).trans rfl
      have zg2_1 : W9.cell? ⟨g2, 1, none⟩ = some (.int .u16 a0_1) := (blk_cell n1_.out 1).trans rfl
      have zg2_2 : W9.cell? ⟨g2, 2, none⟩ = some (.int .u16 a0_2) := (blk_cell n1_.out 2).trans rfl
      have zg2_3 : W9.cell? ⟨g2, 3, none⟩ = some (.int .u32 a0_3) := (blk_cell n1_.out 3).trans rfl
      have zg2_4 : W9.cell? ⟨g2, 4, none⟩ = some (.slice A0_4 l0_4.length c0_4) := (blk_cell n1_.out 4).trans rfl
      have zg2_5 : W9.cell? ⟨g2, 5, none⟩ = some (.slice A0_5 l0_5.length c0_5) := (blk_cell n1_.out 5).trans rfl
      have zg2_6 : W9.cell? ⟨g2, 6, none⟩ = some (.slice A0_6 l0_6.length c0_6) := (blk_cell n1_.out 6).trans rfl
      clear n1_
      have fg6_0 := blk_frozen BKg6.out 0
      have fg6_1 := blk_frozen BKg6.out 1
      have fg6_2 := blk_frozen BKg6.out 2
      have fg6_3 := blk_frozen BKg6.out 3
      have fg6_4 := blk_frozen BKg6.out 4
      have fg6_5 := blk_frozen BKg6.out 5
      have fg6_6 := blk_frozen BKg6.out 6
      have zg6_0 : W9.cell? ⟨g6, 0, none⟩ = some (.string a0_0) := (blk_cell BKg6.out 0).trans rfl
      have zg6_1 : W9.cell? ⟨g6, 1, none⟩ = some (.int .u16 a0_1) := (blk_cell BKg6.out 1).trans rfl
      have zg6_2 : W9.cell? ⟨g6, 2, none⟩ = some (.int .u16 a0_2) := (blk_cell BKg6.out 2).trans rfl
      have zg6_3 : W9.cell? ⟨g6, 3, none⟩ = some (.int .u32 a0_3) := (blk_cell BKg6.out 3).trans rfl
      have zg6_4 : W9.cell? ⟨g6, 4, none⟩ = some (.slice A0_4 l0_4.length c0_4) := (blk_cell BKg6.out 4).trans rfl
      have zg6_5 : W9.cell? ⟨g6, 5, none⟩ = some (.slice A0_5 l0_5.length c0_5) := (blk_cell BKg6.out 5).trans rfl
      have zg6_6 : W9.cell? ⟨g6, 6, none⟩ = some (.slice A0_6 l0_6.length c0_6) := (blk_cell BKg6.out 6).trans rfl
      have hsz := HS0.out
      go_upto_region 11 with fail
      (try simp only [Act.put, List.setIfInBounds_toArray, List.set_cons_zero, List.set_cons_succ])
      have n1_ := Aside0.mk (show (W9.setCell ⟨g6, 0, none⟩ (.string (a0_0 ++ (⟨#[120]⟩ : ByteArray)))).heap[g6]? = some (.cells #[.string (a0_0 ++ (⟨#[120]⟩ : ByteArray)), .int .u16 a0_1, .int .u16 a0_2, .int .u32 a0_3, .slice A0_4 l0_4.length c0_4, .slice A0_5 l0_5.length c0_5, .slice A0_6 l0_6.length c0_6] 27 (0, 0)) from blk_put BKg6.out 0 _ rfl)
      have n2_ := Aside0.mk (show Below W6.heap.size W6 (W9.setCell ⟨g6, 0, none⟩ (.string (a0_0 ++ (⟨#[120]⟩ : ByteArray)))) from below_set HQ.out GE.out)
      clear hsz GE zg2_0 zg2_1 zg2_2 zg2_3 zg2_4 zg2_5 zg2_6 zg6_0 zg6_1 zg6_2 zg6_3 zg6_4 zg6_5 zg6_6 fg6_0 fg6_1 fg6_2 fg6_3 fg6_4 fg6_5 fg6_6
      generalize (W9.setCell ⟨g6, 0, none⟩ (.string (a0_0 ++ (⟨#[120]⟩ : ByteArray)))) = W10 at n1_ n2_ ⊢
      clear BKg6 HQ
      have BKg6 := n1_
      have HQ := n2_
      clear n1_ n2_
      have n1_ := Aside0.mk (blk_below BKg2.out HQ.out); clear BKg2; have BKg2 := n1_; clear n1_
      have n1_ := Aside0.mk (below_step HB.out HQ.out); clear HB HQ; have HB := n1_; clear n1_
      have HQ := Aside0.mk (Below.refl W10.heap.size W10)
      have zg2_0 : W10.cell? ⟨g2, 0, none⟩ = some (.string a0_0) := (blk_cell BKg2.out 0).trans rfl
      have zg2_1 : W10.cell? ⟨g2, 1, none⟩ = some (.int .u16 a0_1) := (blk_cell BKg2.out 1).trans rfl
      have zg2_2 : W10.cell? ⟨g2, 2, none⟩ = some (.int .u16 a0_2) := (blk_cell BKg2.out 2).trans rfl
      have zg2_3 : W10.cell? ⟨g2, 3, none⟩ = some (.int .u32 a0_3) := (blk_cell BKg2.out 3).trans rfl
      have zg2_4 : W10.cell? ⟨g2, 4, none⟩ = some (.slice A0_4 l0_4.length c0_4) := (blk_cell BKg2.out 4).trans rfl
      have zg2_5 : W10.cell? ⟨g2, 5, none⟩ = some (.slice A0_5 l0_5.length c0_5) := (blk_cell BKg2.out 5).trans rfl
      have zg2_6 : W10.cell? ⟨g2, 6, none⟩ = some (.slice A0_6 l0_6.length c0_6) := (blk_cell BKg2.out 6).trans rfl
      go_upto_region 12 with (first | ((with_reducible refine gate_callee (f := 15) rfl ?_); refine goesL_ (some 38) rfl rfl Try.func15 (by kernel_rfl) rfl #[.agg #[.string a0_0, .int .u16 a0_1, .int .u16 a0_2, .int .u32 a0_3, .slice A0_4 l0_4.length c0_4, .slice A0_5 l0_5.length c0_5, .slice A0_6 l0_6.length c0_6]] rfl (by (try simp only [List.map_toArray, List.map_cons, List.map_nil]); first | done | rfl) ?_; (with_reducible refine (nunciolaw05_Copied.calls a0_0 a0_1 a0_2 a0_3 A0_4 c0_4 l0_4 A0_5 c0_5 l0_5 A0_6 c0_6 l0_6 a0_0 a0_1 a0_2 a0_3 l0_4 l0_5 l0_6 _ (Kd.C_below HR4.out (below_step HB.out HQ.out)) HC4.out (Kd.C_below HR5.out (below_step HB.out HQ.out)) HC5.out (Kd.C_below HR6.out (below_step HB.out HQ.out)) HC6.out HP.out).mono ?_); rintro e w11 ⟨v4, v5, v6, rfl, ho4, ho5, ho6, hb⟩; refine ⟨_, rfl, ?_⟩; obtain ⟨A7, c7, rfl⟩ := Kd.R_slice ho4; obtain ⟨B7, d7, rfl⟩ := Kd.R_slice ho5; obtain ⟨C7, e7, rfl⟩ := Kd.R_slice ho6; have HV4 := Aside0.mk ho4; have HV5 := Aside0.mk ho5; have HV6 := Aside0.mk ho6; have n1_ := Aside0.mk (below_step HQ.out hb); clear HQ hb ho4 ho5 ho6 zg2_0 zg2_1 zg2_2 zg2_3 zg2_4 zg2_5 zg2_6; have HQ := n1_; have HE := Aside0.mk (Below.refl w11.heap.size w11); clear n1_) | ((with_reducible refine gate_dst (N := 7) rfl ?_); refine box_event ?hg (N := 7) ?hd (cs := #[.string (⟨#[]⟩ : ByteArray), .int .u16 0, .int .u16 0, .int .u32 0, .slice none 0 0, .slice none 0 0, .slice none 0 0]) (t := 27) ?hr ?_; (case hd => rfl); (case hg => rfl); (case hr => first | (go_simp; done) | (go_simp; rfl)); intro g7 hg w12 hbox hb; have yg7_0 : w12.cell? ⟨g7, 0, none⟩ = some (.string (⟨#[]⟩ : ByteArray)) := (blk_cell hbox 0).trans rfl; have yg7_1 : w12.cell? ⟨g7, 1, none⟩ = some (.int .u16 0) := (blk_cell hbox 1).trans rfl; have yg7_2 : w12.cell? ⟨g7, 2, none⟩ = some (.int .u16 0) := (blk_cell hbox 2).trans rfl; have yg7_3 : w12.cell? ⟨g7, 3, none⟩ = some (.int .u32 0) := (blk_cell hbox 3).trans rfl; have yg7_4 : w12.cell? ⟨g7, 4, none⟩ = some (.slice none 0 0) := (blk_cell hbox 4).trans rfl; have yg7_5 : w12.cell? ⟨g7, 5, none⟩ = some (.slice none 0 0) := (blk_cell hbox 5).trans rfl; have yg7_6 : w12.cell? ⟨g7, 6, none⟩ = some (.slice none 0 0) := (blk_cell hbox 6).trans rfl; have fg7_0 := blk_frozen hbox 0; have fg7_1 := blk_frozen hbox 1; have fg7_2 := blk_frozen hbox 2; have fg7_3 := blk_frozen hbox 3; have fg7_4 := blk_frozen hbox 4; have fg7_5 := blk_frozen hbox 5; have fg7_6 := blk_frozen hbox 6; have BQ := Aside0.mk hbox; have GE := Aside0.mk (show w11.heap.size ≤ g7 by rw [hg]; exact HE.out.size); have n3_ := Aside0.mk (below_step HE.out hb); clear hbox hb hg HE; have HE := n3_; clear n3_))
      (try simp only [Act.put, List.setIfInBounds_toArray, List.set_cons_zero, List.set_cons_succ])
      have n1_ := Aside0.mk (show (((((((w12.setCell ⟨g7, 0, none⟩ (.string a0_0)).setCell ⟨g7, 1, none⟩ (.int .u16 a0_1)).setCell ⟨g7, 2, none⟩ (.int .u16 a0_2)).setCell ⟨g7, 3, none⟩ (.int .u32 a0_3)).setCell ⟨g7, 4, none⟩ (.slice A7 l0_4.length c7)).setCell ⟨g7, 5, none⟩ (.slice B7 l0_5.length d7)).setCell ⟨g7, 6, none⟩ (.slice C7 l0_6.length e7)).heap[g7]? = some (.cells #[.string a0_0, .int .u16 a0_1, .int .u16 a0_2, .int .u32 a0_3, .slice A7 l0_4.length c7, .slice B7 l0_5.length d7, .slice C7 l0_6.length e7] 27 (0, 0)) from (blk_put (blk_put (blk_put (blk_put (blk_put (blk_put (blk_put BQ.out 0 _ rfl) 1 _ rfl) 2 _ rfl) 3 _ rfl) 4 _ rfl) 5 _ rfl) 6 _ rfl))
      have n2_ := Aside0.mk (show Below w11.heap.size w11 (((((((w12.setCell ⟨g7, 0, none⟩ (.string a0_0)).setCell ⟨g7, 1, none⟩ (.int .u16 a0_1)).setCell ⟨g7, 2, none⟩ (.int .u16 a0_2)).setCell ⟨g7, 3, none⟩ (.int .u32 a0_3)).setCell ⟨g7, 4, none⟩ (.slice A7 l0_4.length c7)).setCell ⟨g7, 5, none⟩ (.slice B7 l0_5.length d7)).setCell ⟨g7, 6, none⟩ (.slice C7 l0_6.length e7)) from (below_set (below_set (below_set (below_set (below_set (below_set (below_set HE.out GE.out) GE.out) GE.out) GE.out) GE.out) GE.out) GE.out))
      clear BQ HE yg7_0 yg7_1 yg7_2 yg7_3 yg7_4 yg7_5 yg7_6 fg7_0 fg7_1 fg7_2 fg7_3 fg7_4 fg7_5 fg7_6
      generalize (((((((w12.setCell ⟨g7, 0, none⟩ (.string a0_0)).setCell ⟨g7, 1, none⟩ (.int .u16 a0_1)).setCell ⟨g7, 2, none⟩ (.int .u16 a0_2)).setCell ⟨g7, 3, none⟩ (.int .u32 a0_3)).setCell ⟨g7, 4, none⟩ (.slice A7 l0_4.length c7)).setCell ⟨g7, 5, none⟩ (.slice B7 l0_5.length d7)).setCell ⟨g7, 6, none⟩ (.slice C7 l0_6.length e7)) = W11 at n1_ n2_ ⊢
      have BKg7 := n1_
      have HE := n2_
      clear n1_ n2_
      have n1_ := Aside0.mk (Kd.R_below HV4.out HE.out); clear HV4; have HV4 := n1_; clear n1_
      have n1_ := Aside0.mk (Kd.R_below HV5.out HE.out); clear HV5; have HV5 := n1_; clear n1_
      have n1_ := Aside0.mk (Kd.R_below HV6.out HE.out); clear HV6; have HV6 := n1_; clear n1_
      have GF := Aside0.mk (show W10.heap.size ≤ g7 from Nat.le_trans HQ.out.size GE.out)
      have n1_ := Aside0.mk (below_step HQ.out HE.out); clear HQ HE GE; have HQ := n1_; clear n1_
      have GE := GF; clear GF
      have zg7_0 : W11.cell? ⟨g7, 0, none⟩ = some (.string a0_0) := (blk_cell BKg7.out 0).trans rfl
      have zg7_1 : W11.cell? ⟨g7, 1, none⟩ = some (.int .u16 a0_1) := (blk_cell BKg7.out 1).trans rfl
      have zg7_2 : W11.cell? ⟨g7, 2, none⟩ = some (.int .u16 a0_2) := (blk_cell BKg7.out 2).trans rfl
      have zg7_3 : W11.cell? ⟨g7, 3, none⟩ = some (.int .u32 a0_3) := (blk_cell BKg7.out 3).trans rfl
      have zg7_4 : W11.cell? ⟨g7, 4, none⟩ = some (.slice A7 l0_4.length c7) := (blk_cell BKg7.out 4).trans rfl
      have zg7_5 : W11.cell? ⟨g7, 5, none⟩ = some (.slice B7 l0_5.length d7) := (blk_cell BKg7.out 5).trans rfl
      have zg7_6 : W11.cell? ⟨g7, 6, none⟩ = some (.slice C7 l0_6.length e7) := (blk_cell BKg7.out 6).trans rfl
      have fg7_0 := blk_frozen BKg7.out 0
      have fg7_1 := blk_frozen BKg7.out 1
      have fg7_2 := blk_frozen BKg7.out 2
      have fg7_3 := blk_frozen BKg7.out 3
      have fg7_4 := blk_frozen BKg7.out 4
      have fg7_5 := blk_frozen BKg7.out 5
      have fg7_6 := blk_frozen BKg7.out 6
      go_upto_region 13 with (first | ((with_reducible refine gate_builtin (b := .append) (xs := #[.tmp 40, .tmp 41]) rfl ?_); at_builtin; refine Kd.R_append Kd.string (w0 := W10) W10.heap.size rfl (.tmp 40) (.tmp 41) 24 9 (.string ⟨#[]⟩) 16 rfl Try.underlying24 info9 rfl (by decide) (by omega) (.slice A7 l0_4.length c7) l0_4 (⟨#[0]⟩ : ByteArray) [.string (⟨#[0]⟩ : ByteArray)] _ (fun _ => False) rfl (by first | (go_simp; done) | (go_simp; rfl)) rfl (fun _ hk => hk.elim) (fun k_ hk => Kd.fresh' (Kd.R_lt HV6.out) k_ hk) HV4.out HQ.out HQ.out.size (by have := HS4.out; omega) ?_; intro v1 w13 ho hb hg hat; rw [← NS.out] at ho; have n1_ := Aside0.mk (blk_grown BKg7.out hg (Kd.R_ne HV4.out BKg7.out (by decide))); have n2_ := Aside0.mk (Kd.R_over' HV5.out (Kd.R_typed HV4.out) (by decide) hg); have n3_ := Aside0.mk (Kd.R_after (ok := fun _ => True) (Kd.R_mono (ok' := fun k => True ∧ some k ≠ (.slice A7 l0_4.length c7 : Value).ownBlock) HV6.out (fun _ h => ⟨trivial, h⟩)) hg hat); have n4_ := Aside0.mk ho; have n5_ := Aside0.mk hb; clear BKg7 HV4 HV5 HV6 HQ hb ho hg hat zg7_0 zg7_1 zg7_2 zg7_3 zg7_4 zg7_5 zg7_6 fg7_0 fg7_1 fg7_2 fg7_3 fg7_4 fg7_5 fg7_6; have BKg7 := n1_; have HV5 := n2_; have HV6 := n3_; have HV4 := n4_; have HQ := n5_; clear n1_ n2_ n3_ n4_ n5_; obtain ⟨F7, f7, e_⟩ := Kd.R_slice HV4.out; subst e_; have zg7_0 : w13.cell? ⟨g7, 0, none⟩ = some (.string a0_0) := (blk_cell BKg7.out 0).trans rfl; have zg7_1 : w13.cell? ⟨g7, 1, none⟩ = some (.int .u16 a0_1) := (blk_cell BKg7.out 1).trans rfl; have zg7_2 : w13.cell? ⟨g7, 2, none⟩ = some (.int .u16 a0_2) := (blk_cell BKg7.out 2).trans rfl; have zg7_3 : w13.cell? ⟨g7, 3, none⟩ = some (.int .u32 a0_3) := (blk_cell BKg7.out 3).trans rfl; have zg7_4 : w13.cell? ⟨g7, 4, none⟩ = some (.slice A7 l0_4.length c7) := (blk_cell BKg7.out 4).trans rfl; have zg7_5 : w13.cell? ⟨g7, 5, none⟩ = some (.slice B7 l0_5.length d7) := (blk_cell BKg7.out 5).trans rfl; have zg7_6 : w13.cell? ⟨g7, 6, none⟩ = some (.slice C7 l0_6.length e7) := (blk_cell BKg7.out 6).trans rfl; have fg7_0 := blk_frozen BKg7.out 0; have fg7_1 := blk_frozen BKg7.out 1; have fg7_2 := blk_frozen BKg7.out 2; have fg7_3 := blk_frozen BKg7.out 3; have fg7_4 := blk_frozen BKg7.out 4; have fg7_5 := blk_frozen BKg7.out 5; have fg7_6 := blk_frozen BKg7.out 6))
      (try simp only [Act.put, List.setIfInBounds_toArray, List.set_cons_zero, List.set_cons_succ])
      have n1_ := Aside0.mk (show (w13.setCell ⟨g7, 4, none⟩ (.slice F7 ns.length f7)).heap[g7]? = some (.cells #[.string a0_0, .int .u16 a0_1, .int .u16 a0_2, .int .u32 a0_3, .slice F7 ns.length f7, .slice B7 l0_5.length d7, .slice C7 l0_6.length e7] 27 (0, 0)) from blk_put BKg7.out 4 _ rfl)
      have n2_ := Aside0.mk (show Below W10.heap.size W10 (w13.setCell ⟨g7, 4, none⟩ (.slice F7 ns.length f7)) from below_set HQ.out GE.out)
      have m4_ := Aside0.mk (show Kd.R Kd.string 9 (w13.setCell ⟨g7, 4, none⟩ (.slice F7 ns.length f7)) _ _ _ _ from Kd.R_far (p := ⟨g7, 4, none⟩) (Kd.R_types HV4.out BKg7.out (by decide)) (fun _ hk => hk.2) (.slice F7 ns.length f7))
      have m5_ := Aside0.mk (show Kd.R (Kd.int .u32) 23 (w13.setCell ⟨g7, 4, none⟩ (.slice F7 ns.length f7)) _ _ _ _ from Kd.R_far (p := ⟨g7, 4, none⟩) (Kd.R_types HV5.out BKg7.out (by decide)) (fun _ hk => hk.2) (.slice F7 ns.length f7))
      have m6_ := Aside0.mk (show Kd.R Kd.string 9 (w13.setCell ⟨g7, 4, none⟩ (.slice F7 ns.length f7)) _ _ _ _ from Kd.R_far (p := ⟨g7, 4, none⟩) (Kd.R_types HV6.out BKg7.out (by decide)) (fun _ hk => hk.2) (.slice F7 ns.length f7))
      clear GE HV4 HV5 HV6 zg7_0 zg7_1 zg7_2 zg7_3 zg7_4 zg7_5 zg7_6 fg7_0 fg7_1 fg7_2 fg7_3 fg7_4 fg7_5 fg7_6
      generalize (w13.setCell ⟨g7, 4, none⟩ (.slice F7 ns.length f7)) = W12 at n1_ n2_ m4_ m5_ m6_ ⊢
      clear BKg7 HQ
      have BKg7 := n1_; have HQ := n2_; clear n1_ n2_
      have X74 := Aside0.mk (Kd.R_reads' m4_.out).2.2; have Y74 := Aside0.mk (Kd.R_reads' m4_.out).2.1; clear m4_
      have X75 := Aside0.mk (Kd.R_reads' m5_.out).2.2; have Y75 := Aside0.mk (Kd.R_reads' m5_.out).2.1; clear m5_
      have X76 := Aside0.mk (Kd.R_reads' m6_.out).2.2; have Y76 := Aside0.mk (Kd.R_reads' m6_.out).2.1; clear m6_
      have n1_ := Aside0.mk (blk_below BKg2.out HQ.out); clear BKg2; have BKg2 := n1_; clear n1_
      have n1_ := Aside0.mk (blk_below BKg6.out HQ.out); clear BKg6; have BKg6 := n1_; clear n1_
      have n1_ := Aside0.mk (below_step HB.out HQ.out); clear HB HQ; have HB := n1_; clear n1_
      have HQ := Aside0.mk (Below.refl W12.heap.size W12)
      have zg2_0 : W12.cell? ⟨g2, 0, none⟩ = some (.string a0_0) := (blk_cell BKg2.out 0).trans rfl
      have zg2_1 : W12.cell? ⟨g2, 1, none⟩ = some (.int .u16 a0_1) := (blk_cell BKg2.out 1).trans rfl
      have zg2_2 : W12.cell? ⟨g2, 2, none⟩ = some (.int .u16 a0_2) := (blk_cell BKg2.out 2).trans rfl
      have zg2_3 : W12.cell? ⟨g2, 3, none⟩ = some (.int .u32 a0_3) := (blk_cell BKg2.out 3).trans rfl
      have zg2_4 : W12.cell? ⟨g2, 4, none⟩ = some (.slice A0_4 l0_4.length c0_4) := (blk_cell BKg2.out 4).trans rfl
      have zg2_5 : W12.cell? ⟨g2, 5, none⟩ = some (.slice A0_5 l0_5.length c0_5) := (blk_cell BKg2.out 5).trans rfl
      have zg2_6 : W12.cell? ⟨g2, 6, none⟩ = some (.slice A0_6 l0_6.length c0_6) := (blk_cell BKg2.out 6).trans rfl
      go_upto_region 14 with (first | ((with_reducible refine gate_callee (f := 15) rfl ?_); refine goesL_ (some 45) rfl rfl Try.func15 (by kernel_rfl) rfl #[.agg #[.string a0_0, .int .u16 a0_1, .int .u16 a0_2, .int .u32 a0_3, .slice A0_4 l0_4.length c0_4, .slice A0_5 l0_5.length c0_5, .slice A0_6 l0_6.length c0_6]] rfl (by (try simp only [List.map_toArray, List.map_cons, List.map_nil]); first | done | rfl) ?_; (with_reducible refine (nunciolaw05_Copied.calls a0_0 a0_1 a0_2 a0_3 A0_4 c0_4 l0_4 A0_5 c0_5 l0_5 A0_6 c0_6 l0_6 a0_0 a0_1 a0_2 a0_3 l0_4 l0_5 l0_6 _ (Kd.C_below HR4.out (below_step HB.out HQ.out)) HC4.out (Kd.C_below HR5.out (below_step HB.out HQ.out)) HC5.out (Kd.C_below HR6.out (below_step HB.out HQ.out)) HC6.out HP.out).mono ?_); rintro e w14 ⟨v4, v5, v6, rfl, ho4, ho5, ho6, hb⟩; refine ⟨_, rfl, ?_⟩; obtain ⟨A8, c8, rfl⟩ := Kd.R_slice ho4; obtain ⟨B8, d8, rfl⟩ := Kd.R_slice ho5; obtain ⟨C8, e8, rfl⟩ := Kd.R_slice ho6; have HV4 := Aside0.mk ho4; have HV5 := Aside0.mk ho5; have HV6 := Aside0.mk ho6; have n1_ := Aside0.mk (below_step HQ.out hb); clear HQ hb ho4 ho5 ho6 zg2_0 zg2_1 zg2_2 zg2_3 zg2_4 zg2_5 zg2_6; have HQ := n1_; have HE := Aside0.mk (Below.refl w14.heap.size w14); clear n1_) | ((with_reducible refine gate_dst (N := 8) rfl ?_); refine box_event ?hg (N := 8) ?hd (cs := #[.string (⟨#[]⟩ : ByteArray), .int .u16 0, .int .u16 0, .int .u32 0, .slice none 0 0, .slice none 0 0, .slice none 0 0]) (t := 27) ?hr ?_; (case hd => rfl); (case hg => rfl); (case hr => first | (go_simp; done) | (go_simp; rfl)); intro g8 hg w15 hbox hb; have yg8_0 : w15.cell? ⟨g8, 0, none⟩ = some (.string (⟨#[]⟩ : ByteArray)) := (blk_cell hbox 0).trans rfl; have yg8_1 : w15.cell? ⟨g8, 1, none⟩ = some (.int .u16 0) := (blk_cell hbox 1).trans rfl; have yg8_2 : w15.cell? ⟨g8, 2, none⟩ = some (.int .u16 0) := (blk_cell hbox 2).trans rfl; have yg8_3 : w15.cell? ⟨g8, 3, none⟩ = some (.int .u32 0) := (blk_cell hbox 3).trans rfl; have yg8_4 : w15.cell? ⟨g8, 4, none⟩ = some (.slice none 0 0) := (blk_cell hbox 4).trans rfl; have yg8_5 : w15.cell? ⟨g8, 5, none⟩ = some (.slice none 0 0) := (blk_cell hbox 5).trans rfl; have yg8_6 : w15.cell? ⟨g8, 6, none⟩ = some (.slice none 0 0) := (blk_cell hbox 6).trans rfl; have fg8_0 := blk_frozen hbox 0; have fg8_1 := blk_frozen hbox 1; have fg8_2 := blk_frozen hbox 2; have fg8_3 := blk_frozen hbox 3; have fg8_4 := blk_frozen hbox 4; have fg8_5 := blk_frozen hbox 5; have fg8_6 := blk_frozen hbox 6; have BQ := Aside0.mk hbox; have GE := Aside0.mk (show w14.heap.size ≤ g8 by rw [hg]; exact HE.out.size); have n3_ := Aside0.mk (below_step HE.out hb); clear hbox hb hg HE; have HE := n3_; clear n3_))
      (try simp only [Act.put, List.setIfInBounds_toArray, List.set_cons_zero, List.set_cons_succ])
      have n1_ := Aside0.mk (show (((((((w15.setCell ⟨g8, 0, none⟩ (.string a0_0)).setCell ⟨g8, 1, none⟩ (.int .u16 a0_1)).setCell ⟨g8, 2, none⟩ (.int .u16 a0_2)).setCell ⟨g8, 3, none⟩ (.int .u32 a0_3)).setCell ⟨g8, 4, none⟩ (.slice A8 l0_4.length c8)).setCell ⟨g8, 5, none⟩ (.slice B8 l0_5.length d8)).setCell ⟨g8, 6, none⟩ (.slice C8 l0_6.length e8)).heap[g8]? = some (.cells #[.string a0_0, .int .u16 a0_1, .int .u16 a0_2, .int .u32 a0_3, .slice A8 l0_4.length c8, .slice B8 l0_5.length d8, .slice C8 l0_6.length e8] 27 (0, 0)) from (blk_put (blk_put (blk_put (blk_put (blk_put (blk_put (blk_put BQ.out 0 _ rfl) 1 _ rfl) 2 _ rfl) 3 _ rfl) 4 _ rfl) 5 _ rfl) 6 _ rfl))
      have n2_ := Aside0.mk (show Below w14.heap.size w14 (((((((w15.setCell ⟨g8, 0, none⟩ (.string a0_0)).setCell ⟨g8, 1, none⟩ (.int .u16 a0_1)).setCell ⟨g8, 2, none⟩ (.int .u16 a0_2)).setCell ⟨g8, 3, none⟩ (.int .u32 a0_3)).setCell ⟨g8, 4, none⟩ (.slice A8 l0_4.length c8)).setCell ⟨g8, 5, none⟩ (.slice B8 l0_5.length d8)).setCell ⟨g8, 6, none⟩ (.slice C8 l0_6.length e8)) from (below_set (below_set (below_set (below_set (below_set (below_set (below_set HE.out GE.out) GE.out) GE.out) GE.out) GE.out) GE.out) GE.out))
      clear BQ HE yg8_0 yg8_1 yg8_2 yg8_3 yg8_4 yg8_5 yg8_6 fg8_0 fg8_1 fg8_2 fg8_3 fg8_4 fg8_5 fg8_6
      generalize (((((((w15.setCell ⟨g8, 0, none⟩ (.string a0_0)).setCell ⟨g8, 1, none⟩ (.int .u16 a0_1)).setCell ⟨g8, 2, none⟩ (.int .u16 a0_2)).setCell ⟨g8, 3, none⟩ (.int .u32 a0_3)).setCell ⟨g8, 4, none⟩ (.slice A8 l0_4.length c8)).setCell ⟨g8, 5, none⟩ (.slice B8 l0_5.length d8)).setCell ⟨g8, 6, none⟩ (.slice C8 l0_6.length e8)) = W13 at n1_ n2_ ⊢
      have BKg8 := n1_
      have HE := n2_
      clear n1_ n2_
      have n1_ := Aside0.mk (Kd.R_below HV4.out HE.out); clear HV4; have HV4 := n1_; clear n1_
      have n1_ := Aside0.mk (Kd.R_below HV5.out HE.out); clear HV5; have HV5 := n1_; clear n1_
      have n1_ := Aside0.mk (Kd.R_below HV6.out HE.out); clear HV6; have HV6 := n1_; clear n1_
      have GF := Aside0.mk (show W12.heap.size ≤ g8 from Nat.le_trans HQ.out.size GE.out)
      have n1_ := Aside0.mk (below_step HQ.out HE.out); clear HQ HE GE; have HQ := n1_; clear n1_
      have GE := GF; clear GF
      have zg8_0 : W13.cell? ⟨g8, 0, none⟩ = some (.string a0_0) := (blk_cell BKg8.out 0).trans rfl
      have zg8_1 : W13.cell? ⟨g8, 1, none⟩ = some (.int .u16 a0_1) := (blk_cell BKg8.out 1).trans rfl
      have zg8_2 : W13.cell? ⟨g8, 2, none⟩ = some (.int .u16 a0_2) := (blk_cell BKg8.out 2).trans rfl
      have zg8_3 : W13.cell? ⟨g8, 3, none⟩ = some (.int .u32 a0_3) := (blk_cell BKg8.out 3).trans rfl
      have zg8_4 : W13.cell? ⟨g8, 4, none⟩ = some (.slice A8 l0_4.length c8) := (blk_cell BKg8.out 4).trans rfl
      have zg8_5 : W13.cell? ⟨g8, 5, none⟩ = some (.slice B8 l0_5.length d8) := (blk_cell BKg8.out 5).trans rfl
      have zg8_6 : W13.cell? ⟨g8, 6, none⟩ = some (.slice C8 l0_6.length e8) := (blk_cell BKg8.out 6).trans rfl
      have fg8_0 := blk_frozen BKg8.out 0
      have fg8_1 := blk_frozen BKg8.out 1
      have fg8_2 := blk_frozen BKg8.out 2
      have fg8_3 := blk_frozen BKg8.out 3
      have fg8_4 := blk_frozen BKg8.out 4
      have fg8_5 := blk_frozen BKg8.out 5
      have fg8_6 := blk_frozen BKg8.out 6
      go_upto_region 15 with (first | ((with_reducible refine gate_builtin (b := .append) (xs := #[.tmp 47, .tmp 48]) rfl ?_); at_builtin; refine Kd.R_append (Kd.int .u32) (w0 := W12) W12.heap.size rfl (.tmp 47) (.tmp 48) 25 23 (.int .u32 0) 4 rfl Try.underlying25 info23 rfl (by decide) (by omega) (.slice B8 l0_5.length d8) l0_5 (0 : Int) [.int .u32 0] _ (fun _ => False) rfl (by first | (go_simp; done) | (go_simp; rfl)) rfl (fun _ hk => hk.elim) (fun _ _ => trivial) HV5.out HQ.out HQ.out.size (by have := HS5.out; omega) ?_; intro v1 w16 ho hb hg hat; rw [← US.out] at ho; have n1_ := Aside0.mk (blk_grown BKg8.out hg (Kd.R_ne HV5.out BKg8.out (by decide))); have n2_ := Aside0.mk (Kd.R_over' HV4.out (Kd.R_typed HV5.out) (by decide) hg); have n3_ := Aside0.mk (Kd.R_over' HV6.out (Kd.R_typed HV5.out) (by decide) hg); have n4_ := Aside0.mk ho; have n5_ := Aside0.mk hb; clear BKg8 HV4 HV5 HV6 HQ hb ho hg hat zg8_0 zg8_1 zg8_2 zg8_3 zg8_4 zg8_5 zg8_6 fg8_0 fg8_1 fg8_2 fg8_3 fg8_4 fg8_5 fg8_6; have BKg8 := n1_; have HV4 := n2_; have HV6 := n3_; have HV5 := n4_; have HQ := n5_; clear n1_ n2_ n3_ n4_ n5_; obtain ⟨F8, f8, e_⟩ := Kd.R_slice HV5.out; subst e_; have zg8_0 : w16.cell? ⟨g8, 0, none⟩ = some (.string a0_0) := (blk_cell BKg8.out 0).trans rfl; have zg8_1 : w16.cell? ⟨g8, 1, none⟩ = some (.int .u16 a0_1) := (blk_cell BKg8.out 1).trans rfl; have zg8_2 : w16.cell? ⟨g8, 2, none⟩ = some (.int .u16 a0_2) := (blk_cell BKg8.out 2).trans rfl; have zg8_3 : w16.cell? ⟨g8, 3, none⟩ = some (.int .u32 a0_3) := (blk_cell BKg8.out 3).trans rfl; have zg8_4 : w16.cell? ⟨g8, 4, none⟩ = some (.slice A8 l0_4.length c8) := (blk_cell BKg8.out 4).trans rfl; have zg8_5 : w16.cell? ⟨g8, 5, none⟩ = some (.slice B8 l0_5.length d8) := (blk_cell BKg8.out 5).trans rfl; have zg8_6 : w16.cell? ⟨g8, 6, none⟩ = some (.slice C8 l0_6.length e8) := (blk_cell BKg8.out 6).trans rfl; have fg8_0 := blk_frozen BKg8.out 0; have fg8_1 := blk_frozen BKg8.out 1; have fg8_2 := blk_frozen BKg8.out 2; have fg8_3 := blk_frozen BKg8.out 3; have fg8_4 := blk_frozen BKg8.out 4; have fg8_5 := blk_frozen BKg8.out 5; have fg8_6 := blk_frozen BKg8.out 6))
      (try simp only [Act.put, List.setIfInBounds_toArray, List.set_cons_zero, List.set_cons_succ])
      have n1_ := Aside0.mk (show (w16.setCell ⟨g8, 5, none⟩ (.slice F8 us.length f8)).heap[g8]? = some (.cells #[.string a0_0, .int .u16 a0_1, .int .u16 a0_2, .int .u32 a0_3, .slice A8 l0_4.length c8, .slice F8 us.length f8, .slice C8 l0_6.length e8] 27 (0, 0)) from blk_put BKg8.out 5 _ rfl)
      have n2_ := Aside0.mk (show Below W12.heap.size W12 (w16.setCell ⟨g8, 5, none⟩ (.slice F8 us.length f8)) from below_set HQ.out GE.out)
      have m4_ := Aside0.mk (show Kd.R Kd.string 9 (w16.setCell ⟨g8, 5, none⟩ (.slice F8 us.length f8)) _ _ _ _ from Kd.R_far (p := ⟨g8, 5, none⟩) (Kd.R_types HV4.out BKg8.out (by decide)) (fun _ hk => hk.2) (.slice F8 us.length f8))
      have m5_ := Aside0.mk (show Kd.R (Kd.int .u32) 23 (w16.setCell ⟨g8, 5, none⟩ (.slice F8 us.length f8)) _ _ _ _ from Kd.R_far (p := ⟨g8, 5, none⟩) (Kd.R_types HV5.out BKg8.out (by decide)) (fun _ hk => hk.2) (.slice F8 us.length f8))
      have m6_ := Aside0.mk (show Kd.R Kd.string 9 (w16.setCell ⟨g8, 5, none⟩ (.slice F8 us.length f8)) _ _ _ _ from Kd.R_far (p := ⟨g8, 5, none⟩) (Kd.R_types HV6.out BKg8.out (by decide)) (fun _ hk => hk.2) (.slice F8 us.length f8))
      clear GE HV4 HV5 HV6 zg8_0 zg8_1 zg8_2 zg8_3 zg8_4 zg8_5 zg8_6 fg8_0 fg8_1 fg8_2 fg8_3 fg8_4 fg8_5 fg8_6
      generalize (w16.setCell ⟨g8, 5, none⟩ (.slice F8 us.length f8)) = W14 at n1_ n2_ m4_ m5_ m6_ ⊢
      clear BKg8 HQ
      have BKg8 := n1_; have HQ := n2_; clear n1_ n2_
      have X84 := Aside0.mk (Kd.R_reads' m4_.out).2.2; have Y84 := Aside0.mk (Kd.R_reads' m4_.out).2.1; clear m4_
      have X85 := Aside0.mk (Kd.R_reads' m5_.out).2.2; have Y85 := Aside0.mk (Kd.R_reads' m5_.out).2.1; clear m5_
      have X86 := Aside0.mk (Kd.R_reads' m6_.out).2.2; have Y86 := Aside0.mk (Kd.R_reads' m6_.out).2.1; clear m6_
      have n1_ := Aside0.mk (blk_below BKg2.out HQ.out); clear BKg2; have BKg2 := n1_; clear n1_
      have n1_ := Aside0.mk (blk_below BKg6.out HQ.out); clear BKg6; have BKg6 := n1_; clear n1_
      have n1_ := Aside0.mk (blk_below BKg7.out HQ.out); clear BKg7; have BKg7 := n1_; clear n1_
      have n1_ := Aside0.mk (Kd.C_below X74.out HQ.out); clear X74; have X74 := n1_; clear n1_
      have n1_ := Aside0.mk (Kd.C_below X75.out HQ.out); clear X75; have X75 := n1_; clear n1_
      have n1_ := Aside0.mk (Kd.C_below X76.out HQ.out); clear X76; have X76 := n1_; clear n1_
      have n1_ := Aside0.mk (below_step HB.out HQ.out); clear HB HQ; have HB := n1_; clear n1_
      have HQ := Aside0.mk (Below.refl W14.heap.size W14)
      have zg6_0 : W14.cell? ⟨g6, 0, none⟩ = some (.string (a0_0 ++ (⟨#[120]⟩ : ByteArray))) := (blk_cell BKg6.out 0).trans rfl
      have zg6_1 : W14.cell? ⟨g6, 1, none⟩ = some (.int .u16 a0_1) := (blk_cell BKg6.out 1).trans rfl
      have zg6_2 : W14.cell? ⟨g6, 2, none⟩ = some (.int .u16 a0_2) := (blk_cell BKg6.out 2).trans rfl
      have zg6_3 : W14.cell? ⟨g6, 3, none⟩ = some (.int .u32 a0_3) := (blk_cell BKg6.out 3).trans rfl
      have zg6_4 : W14.cell? ⟨g6, 4, none⟩ = some (.slice A0_4 l0_4.length c0_4) := (blk_cell BKg6.out 4).trans rfl
      have zg6_5 : W14.cell? ⟨g6, 5, none⟩ = some (.slice A0_5 l0_5.length c0_5) := (blk_cell BKg6.out 5).trans rfl
      have zg6_6 : W14.cell? ⟨g6, 6, none⟩ = some (.slice A0_6 l0_6.length c0_6) := (blk_cell BKg6.out 6).trans rfl
      have zg7_0 : W14.cell? ⟨g7, 0, none⟩ = some (.string a0_0) := (blk_cell BKg7.out 0).trans rfl
      have zg7_1 : W14.cell? ⟨g7, 1, none⟩ = some (.int .u16 a0_1) := (blk_cell BKg7.out 1).trans rfl
      have zg7_2 : W14.cell? ⟨g7, 2, none⟩ = some (.int .u16 a0_2) := (blk_cell BKg7.out 2).trans rfl
      have zg7_3 : W14.cell? ⟨g7, 3, none⟩ = some (.int .u32 a0_3) := (blk_cell BKg7.out 3).trans rfl
      have zg7_4 : W14.cell? ⟨g7, 4, none⟩ = some (.slice F7 ns.length f7) := (blk_cell BKg7.out 4).trans rfl
      have zg7_5 : W14.cell? ⟨g7, 5, none⟩ = some (.slice B7 l0_5.length d7) := (blk_cell BKg7.out 5).trans rfl
      have zg7_6 : W14.cell? ⟨g7, 6, none⟩ = some (.slice C7 l0_6.length e7) := (blk_cell BKg7.out 6).trans rfl
      have zg8_0 : W14.cell? ⟨g8, 0, none⟩ = some (.string a0_0) := (blk_cell BKg8.out 0).trans rfl
      have zg8_1 : W14.cell? ⟨g8, 1, none⟩ = some (.int .u16 a0_1) := (blk_cell BKg8.out 1).trans rfl
      have zg8_2 : W14.cell? ⟨g8, 2, none⟩ = some (.int .u16 a0_2) := (blk_cell BKg8.out 2).trans rfl
      have zg8_3 : W14.cell? ⟨g8, 3, none⟩ = some (.int .u32 a0_3) := (blk_cell BKg8.out 3).trans rfl
      have zg8_4 : W14.cell? ⟨g8, 4, none⟩ = some (.slice A8 l0_4.length c8) := (blk_cell BKg8.out 4).trans rfl
      have zg8_5 : W14.cell? ⟨g8, 5, none⟩ = some (.slice F8 us.length f8) := (blk_cell BKg8.out 5).trans rfl
      have zg8_6 : W14.cell? ⟨g8, 6, none⟩ = some (.slice C8 l0_6.length e8) := (blk_cell BKg8.out 6).trans rfl
      go_upto_region 17 with (first | (go_at_call 11; (with_reducible refine (rdata_Check.calls k1 (a0_0 ++ (⟨#[120]⟩ : ByteArray)) a0_1 a0_2 a0_3 A0_4 c0_4 l0_4 A0_5 c0_5 l0_5 A0_6 c0_6 l0_6 40 _ (Kd.C_below HR4.out (below_step HB.out HQ.out)) HC4.out (Kd.C_below HR5.out (below_step HB.out HQ.out)) HC5.out (Kd.C_below HR6.out (below_step HB.out HQ.out)) HC6.out K1.out).mono ?_); rintro e w17 ⟨rfl, hb⟩; have n1_ := Aside0.mk (below_step HQ.out hb); clear HQ hb zg6_0 zg6_1 zg6_2 zg6_3 zg6_4 zg6_5 zg6_6 zg7_0 zg7_1 zg7_2 zg7_3 zg7_4 zg7_5 zg7_6 zg8_0 zg8_1 zg8_2 zg8_3 zg8_4 zg8_5 zg8_6; have HQ := n1_; clear n1_; have zg7_0 : w17.cell? ⟨g7, 0, none⟩ = some (.string a0_0) := (blk_cell (blk_below BKg7.out HQ.out) 0).trans rfl; have zg7_1 : w17.cell? ⟨g7, 1, none⟩ = some (.int .u16 a0_1) := (blk_cell (blk_below BKg7.out HQ.out) 1).trans rfl; have zg7_2 : w17.cell? ⟨g7, 2, none⟩ = some (.int .u16 a0_2) := (blk_cell (blk_below BKg7.out HQ.out) 2).trans rfl; have zg7_3 : w17.cell? ⟨g7, 3, none⟩ = some (.int .u32 a0_3) := (blk_cell (blk_below BKg7.out HQ.out) 3).trans rfl; have zg7_4 : w17.cell? ⟨g7, 4, none⟩ = some (.slice F7 ns.length f7) := (blk_cell (blk_below BKg7.out HQ.out) 4).trans rfl; have zg7_5 : w17.cell? ⟨g7, 5, none⟩ = some (.slice B7 l0_5.length d7) := (blk_cell (blk_below BKg7.out HQ.out) 5).trans rfl; have zg7_6 : w17.cell? ⟨g7, 6, none⟩ = some (.slice C7 l0_6.length e7) := (blk_cell (blk_below BKg7.out HQ.out) 6).trans rfl; have zg8_0 : w17.cell? ⟨g8, 0, none⟩ = some (.string a0_0) := (blk_cell (blk_below BKg8.out HQ.out) 0).trans rfl; have zg8_1 : w17.cell? ⟨g8, 1, none⟩ = some (.int .u16 a0_1) := (blk_cell (blk_below BKg8.out HQ.out) 1).trans rfl; have zg8_2 : w17.cell? ⟨g8, 2, none⟩ = some (.int .u16 a0_2) := (blk_cell (blk_below BKg8.out HQ.out) 2).trans rfl; have zg8_3 : w17.cell? ⟨g8, 3, none⟩ = some (.int .u32 a0_3) := (blk_cell (blk_below BKg8.out HQ.out) 3).trans rfl; have zg8_4 : w17.cell? ⟨g8, 4, none⟩ = some (.slice A8 l0_4.length c8) := (blk_cell (blk_below BKg8.out HQ.out) 4).trans rfl; have zg8_5 : w17.cell? ⟨g8, 5, none⟩ = some (.slice F8 us.length f8) := (blk_cell (blk_below BKg8.out HQ.out) 5).trans rfl; have zg8_6 : w17.cell? ⟨g8, 6, none⟩ = some (.slice C8 l0_6.length e8) := (blk_cell (blk_below BKg8.out HQ.out) 6).trans rfl) | (go_at_call 11; (with_reducible refine (rdata_Check.calls k2 a0_0 a0_1 a0_2 a0_3 F7 f7 ns B7 d7 l0_5 C7 e7 l0_6 50 _ (Kd.C_below X74.out HQ.out) Y74.out (Kd.C_below X75.out HQ.out) Y75.out (Kd.C_below X76.out HQ.out) Y76.out K2.out).mono ?_); rintro e w18 ⟨rfl, hb⟩; have n1_ := Aside0.mk (below_step HQ.out hb); clear HQ hb zg7_0 zg7_1 zg7_2 zg7_3 zg7_4 zg7_5 zg7_6 zg8_0 zg8_1 zg8_2 zg8_3 zg8_4 zg8_5 zg8_6; have HQ := n1_; clear n1_; have zg8_0 : w18.cell? ⟨g8, 0, none⟩ = some (.string a0_0) := (blk_cell (blk_below BKg8.out HQ.out) 0).trans rfl; have zg8_1 : w18.cell? ⟨g8, 1, none⟩ = some (.int .u16 a0_1) := (blk_cell (blk_below BKg8.out HQ.out) 1).trans rfl; have zg8_2 : w18.cell? ⟨g8, 2, none⟩ = some (.int .u16 a0_2) := (blk_cell (blk_below BKg8.out HQ.out) 2).trans rfl; have zg8_3 : w18.cell? ⟨g8, 3, none⟩ = some (.int .u32 a0_3) := (blk_cell (blk_below BKg8.out HQ.out) 3).trans rfl; have zg8_4 : w18.cell? ⟨g8, 4, none⟩ = some (.slice A8 l0_4.length c8) := (blk_cell (blk_below BKg8.out HQ.out) 4).trans rfl; have zg8_5 : w18.cell? ⟨g8, 5, none⟩ = some (.slice F8 us.length f8) := (blk_cell (blk_below BKg8.out HQ.out) 5).trans rfl; have zg8_6 : w18.cell? ⟨g8, 6, none⟩ = some (.slice C8 l0_6.length e8) := (blk_cell (blk_below BKg8.out HQ.out) 6).trans rfl) | (go_at_call 11; (with_reducible refine (rdata_Check.calls k3 a0_0 a0_1 a0_2 a0_3 A8 c8 l0_4 F8 f8 us C8 e8 l0_6 50 _ (Kd.C_below X84.out HQ.out) Y84.out (Kd.C_below X85.out HQ.out) Y85.out (Kd.C_below X86.out HQ.out) Y86.out K3.out).mono ?_); rintro e w19 ⟨rfl, hb⟩; have n1_ := Aside0.mk (below_step HQ.out hb); clear HQ hb zg8_0 zg8_1 zg8_2 zg8_3 zg8_4 zg8_5 zg8_6; have HQ := n1_; clear n1_))
      clear BKg6 BKg7 BKg8 X74 Y74 X75 Y75 X76 Y76 X84 Y84 X85 Y85 X86 Y86
      have n1_ := Aside0.mk (blk_below BKg2.out HQ.out); clear BKg2; have BKg2 := n1_; clear n1_
      have n1_ := Aside0.mk (below_step HB.out HQ.out); clear HB HQ; have HB := n1_; clear n1_
      have HQ := Aside0.mk (Below.refl w19.heap.size w19)
      have zg2_0 : w19.cell? ⟨g2, 0, none⟩ = some (.string a0_0) := (blk_cell BKg2.out 0).trans rfl
      have zg2_1 : w19.cell? ⟨g2, 1, none⟩ = some (.int .u16 a0_1) := (blk_cell BKg2.out 1).trans rfl
      have zg2_2 : w19.cell? ⟨g2, 2, none⟩ = some (.int .u16 a0_2) := (blk_cell BKg2.out 2).trans rfl
      have zg2_3 : w19.cell? ⟨g2, 3, none⟩ = some (.int .u32 a0_3) := (blk_cell BKg2.out 3).trans rfl
      have zg2_4 : w19.cell? ⟨g2, 4, none⟩ = some (.slice A0_4 l0_4.length c0_4) := (blk_cell BKg2.out 4).trans rfl
      have zg2_5 : w19.cell? ⟨g2, 5, none⟩ = some (.slice A0_5 l0_5.length c0_5) := (blk_cell BKg2.out 5).trans rfl
      have zg2_6 : w19.cell? ⟨g2, 6, none⟩ = some (.slice A0_6 l0_6.length c0_6) := (blk_cell BKg2.out 6).trans rfl
      go_upto_region 18 with (first | ((with_reducible refine gate_callee (f := 15) rfl ?_); refine goesL_ (some 65) rfl rfl Try.func15 (by kernel_rfl) rfl #[.agg #[.string a0_0, .int .u16 a0_1, .int .u16 a0_2, .int .u32 a0_3, .slice A0_4 l0_4.length c0_4, .slice A0_5 l0_5.length c0_5, .slice A0_6 l0_6.length c0_6]] rfl (by (try simp only [List.map_toArray, List.map_cons, List.map_nil]); first | done | rfl) ?_; (with_reducible refine (nunciolaw05_Copied.calls a0_0 a0_1 a0_2 a0_3 A0_4 c0_4 l0_4 A0_5 c0_5 l0_5 A0_6 c0_6 l0_6 a0_0 a0_1 a0_2 a0_3 l0_4 l0_5 l0_6 _ (Kd.C_below HR4.out (below_step HB.out HQ.out)) HC4.out (Kd.C_below HR5.out (below_step HB.out HQ.out)) HC5.out (Kd.C_below HR6.out (below_step HB.out HQ.out)) HC6.out HP.out).mono ?_); rintro e w20 ⟨v4, v5, v6, rfl, ho4, ho5, ho6, hb⟩; refine ⟨_, rfl, ?_⟩; obtain ⟨A9, c9, rfl⟩ := Kd.R_slice ho4; obtain ⟨B9, d9, rfl⟩ := Kd.R_slice ho5; obtain ⟨C9, e9, rfl⟩ := Kd.R_slice ho6; have HV4 := Aside0.mk ho4; have HV5 := Aside0.mk ho5; have HV6 := Aside0.mk ho6; have n1_ := Aside0.mk (below_step HQ.out hb); clear HQ hb ho4 ho5 ho6 zg2_0 zg2_1 zg2_2 zg2_3 zg2_4 zg2_5 zg2_6; have HQ := n1_; have HE := Aside0.mk (Below.refl w20.heap.size w20); clear n1_) | ((with_reducible refine gate_dst (N := 9) rfl ?_); refine box_event ?hg (N := 9) ?hd (cs := #[.string (⟨#[]⟩ : ByteArray), .int .u16 0, .int .u16 0, .int .u32 0, .slice none 0 0, .slice none 0 0, .slice none 0 0]) (t := 27) ?hr ?_; (case hd => rfl); (case hg => rfl); (case hr => first | (go_simp; done) | (go_simp; rfl)); intro g9 hg w21 hbox hb; have yg9_0 : w21.cell? ⟨g9, 0, none⟩ = some (.string (⟨#[]⟩ : ByteArray)) := (blk_cell hbox 0).trans rfl; have yg9_1 : w21.cell? ⟨g9, 1, none⟩ = some (.int .u16 0) := (blk_cell hbox 1).trans rfl; have yg9_2 : w21.cell? ⟨g9, 2, none⟩ = some (.int .u16 0) := (blk_cell hbox 2).trans rfl; have yg9_3 : w21.cell? ⟨g9, 3, none⟩ = some (.int .u32 0) := (blk_cell hbox 3).trans rfl; have yg9_4 : w21.cell? ⟨g9, 4, none⟩ = some (.slice none 0 0) := (blk_cell hbox 4).trans rfl; have yg9_5 : w21.cell? ⟨g9, 5, none⟩ = some (.slice none 0 0) := (blk_cell hbox 5).trans rfl; have yg9_6 : w21.cell? ⟨g9, 6, none⟩ = some (.slice none 0 0) := (blk_cell hbox 6).trans rfl; have fg9_0 := blk_frozen hbox 0; have fg9_1 := blk_frozen hbox 1; have fg9_2 := blk_frozen hbox 2; have fg9_3 := blk_frozen hbox 3; have fg9_4 := blk_frozen hbox 4; have fg9_5 := blk_frozen hbox 5; have fg9_6 := blk_frozen hbox 6; have BQ := Aside0.mk hbox; have GE := Aside0.mk (show w20.heap.size ≤ g9 by rw [hg]; exact HE.out.size); have n3_ := Aside0.mk (below_step HE.out hb); clear hbox hb hg HE; have HE := n3_; clear n3_))
      (try simp only [Act.put, List.setIfInBounds_toArray, List.set_cons_zero, List.set_cons_succ])
      have n1_ := Aside0.mk (show (((((((w21.setCell ⟨g9, 0, none⟩ (.string a0_0)).setCell ⟨g9, 1, none⟩ (.int .u16 a0_1)).setCell ⟨g9, 2, none⟩ (.int .u16 a0_2)).setCell ⟨g9, 3, none⟩ (.int .u32 a0_3)).setCell ⟨g9, 4, none⟩ (.slice A9 l0_4.length c9)).setCell ⟨g9, 5, none⟩ (.slice B9 l0_5.length d9)).setCell ⟨g9, 6, none⟩ (.slice C9 l0_6.length e9)).heap[g9]? = some (.cells #[.string a0_0, .int .u16 a0_1, .int .u16 a0_2, .int .u32 a0_3, .slice A9 l0_4.length c9, .slice B9 l0_5.length d9, .slice C9 l0_6.length e9] 27 (0, 0)) from (blk_put (blk_put (blk_put (blk_put (blk_put (blk_put (blk_put BQ.out 0 _ rfl) 1 _ rfl) 2 _ rfl) 3 _ rfl) 4 _ rfl) 5 _ rfl) 6 _ rfl))
      have n2_ := Aside0.mk (show Below w20.heap.size w20 (((((((w21.setCell ⟨g9, 0, none⟩ (.string a0_0)).setCell ⟨g9, 1, none⟩ (.int .u16 a0_1)).setCell ⟨g9, 2, none⟩ (.int .u16 a0_2)).setCell ⟨g9, 3, none⟩ (.int .u32 a0_3)).setCell ⟨g9, 4, none⟩ (.slice A9 l0_4.length c9)).setCell ⟨g9, 5, none⟩ (.slice B9 l0_5.length d9)).setCell ⟨g9, 6, none⟩ (.slice C9 l0_6.length e9)) from (below_set (below_set (below_set (below_set (below_set (below_set (below_set HE.out GE.out) GE.out) GE.out) GE.out) GE.out) GE.out) GE.out))
      clear BQ HE yg9_0 yg9_1 yg9_2 yg9_3 yg9_4 yg9_5 yg9_6 fg9_0 fg9_1 fg9_2 fg9_3 fg9_4 fg9_5 fg9_6
      generalize (((((((w21.setCell ⟨g9, 0, none⟩ (.string a0_0)).setCell ⟨g9, 1, none⟩ (.int .u16 a0_1)).setCell ⟨g9, 2, none⟩ (.int .u16 a0_2)).setCell ⟨g9, 3, none⟩ (.int .u32 a0_3)).setCell ⟨g9, 4, none⟩ (.slice A9 l0_4.length c9)).setCell ⟨g9, 5, none⟩ (.slice B9 l0_5.length d9)).setCell ⟨g9, 6, none⟩ (.slice C9 l0_6.length e9)) = W20 at n1_ n2_ ⊢
      have BKg9 := n1_
      have HE := n2_
      clear n1_ n2_
      have n1_ := Aside0.mk (Kd.R_below HV4.out HE.out); clear HV4; have HV4 := n1_; clear n1_
      have n1_ := Aside0.mk (Kd.R_below HV5.out HE.out); clear HV5; have HV5 := n1_; clear n1_
      have n1_ := Aside0.mk (Kd.R_below HV6.out HE.out); clear HV6; have HV6 := n1_; clear n1_
      have GF := Aside0.mk (show w19.heap.size ≤ g9 from Nat.le_trans HQ.out.size GE.out)
      have n1_ := Aside0.mk (below_step HQ.out HE.out); clear HQ HE GE; have HQ := n1_; clear n1_
      have GE := GF; clear GF
      have zg9_0 : W20.cell? ⟨g9, 0, none⟩ = some (.string a0_0) := (blk_cell BKg9.out 0).trans rfl
      have zg9_1 : W20.cell? ⟨g9, 1, none⟩ = some (.int .u16 a0_1) := (blk_cell BKg9.out 1).trans rfl
      have zg9_2 : W20.cell? ⟨g9, 2, none⟩ = some (.int .u16 a0_2) := (blk_cell BKg9.out 2).trans rfl
      have zg9_3 : W20.cell? ⟨g9, 3, none⟩ = some (.int .u32 a0_3) := (blk_cell BKg9.out 3).trans rfl
      have zg9_4 : W20.cell? ⟨g9, 4, none⟩ = some (.slice A9 l0_4.length c9) := (blk_cell BKg9.out 4).trans rfl
      have zg9_5 : W20.cell? ⟨g9, 5, none⟩ = some (.slice B9 l0_5.length d9) := (blk_cell BKg9.out 5).trans rfl
      have zg9_6 : W20.cell? ⟨g9, 6, none⟩ = some (.slice C9 l0_6.length e9) := (blk_cell BKg9.out 6).trans rfl
      have fg9_0 := blk_frozen BKg9.out 0
      have fg9_1 := blk_frozen BKg9.out 1
      have fg9_2 := blk_frozen BKg9.out 2
      have fg9_3 := blk_frozen BKg9.out 3
      have fg9_4 := blk_frozen BKg9.out 4
      have fg9_5 := blk_frozen BKg9.out 5
      have fg9_6 := blk_frozen BKg9.out 6
      have n1_ := Aside0.mk (blk_below BKg2.out HQ.out)
      have zg2_0 : W20.cell? ⟨g2, 0, none⟩ = some (.string a0_0) := (blk_cell n1_.out 0).trans rfl
      have zg2_1 : W20.cell? ⟨g2, 1, none⟩ = some (.int .u16 a0_1) := (blk_cell n1_.out 1).trans rfl
      have zg2_2 : W20.cell? ⟨g2, 2, none⟩ = some (.int .u16 a0_2) := (blk_cell n1_.out 2).trans rfl
      have zg2_3 : W20.cell? ⟨g2, 3, none⟩ = some (.int .u32 a0_3) := (blk_cell n1_.out 3).trans rfl
      have zg2_4 : W20.cell? ⟨g2, 4, none⟩ = some (.slice A0_4 l0_4.length c0_4) := (blk_cell n1_.out 4).trans rfl
      have zg2_5 : W20.cell? ⟨g2, 5, none⟩ = some (.slice A0_5 l0_5.length c0_5) := (blk_cell n1_.out 5).trans rfl
      have zg2_6 : W20.cell? ⟨g2, 6, none⟩ = some (.slice A0_6 l0_6.length c0_6) := (blk_cell n1_.out 6).trans rfl
      clear n1_
      rcases HL.out with hl | ⟨hl, h6 | ⟨h6, ⟨k4, hk4⟩⟩⟩
      · have q1 : decide (0 < l0_5.length) = false := decide_eq_false (by omega)
        have q2 : decide ((l0_5.length : Int) > 0) = false := decide_eq_false (by omega)
        have q3 : decide (0 < (l0_5.length : Int)) = false := decide_eq_false (by omega)
        clear hl
        go_wp2
        go_ret
        exact ⟨rfl, below_step HB.out HQ.out⟩
      · have q1 : decide (0 < l0_5.length) = true := decide_eq_true (by omega)
        have q2 : decide ((l0_5.length : Int) > 0) = true := decide_eq_true (by omega)
        have q3 : decide (0 < (l0_5.length : Int)) = true := decide_eq_true (by omega)
        have q6 : (a0_1 != 6) = false := bne_eq_false_iff_eq.mpr h6
        clear hl h6
        go_wp2
        go_ret
        exact ⟨rfl, below_step HB.out HQ.out⟩
      · have q1 : decide (0 < l0_5.length) = true := decide_eq_true (by omega)
        have q2 : decide ((l0_5.length : Int) > 0) = true := decide_eq_true (by omega)
        have q3 : decide (0 < (l0_5.length : Int)) = true := decide_eq_true (by omega)
        have q6 : (a0_1 != 6) = true := bne_iff_ne.mpr h6
        have HN := Aside0.mk hl
        rw [M2d.out] at hk4
        have K4 := Aside0.mk hk4
        clear h6 hk4
        obtain ⟨go, co, eo, gb, gl, cl, HG⟩ := Kd.R_form HV5.out (by omega)
        (first | cases eo | (injection eo with ea_ en_ ec_; (first | subst ea_ | (injection ea_ with ea_; subst ea_)); subst ec_; clear en_))
        obtain ⟨hx0, hf0⟩ := Kd.R_celln 0 HV5.out (0 : Int) (by omega) (by omega)
        (try rw [show ((0 : Int)).toNat = 0 from rfl] at hx0); (try simp only [Nat.reduceMul, Nat.zero_mul, Nat.zero_add, Nat.reduceAdd] at hx0)
        (try rw [show ((0 : Int)).toNat = 0 from rfl] at hf0); (try simp only [Nat.reduceMul, Nat.zero_mul, Nat.zero_add, Nat.reduceAdd] at hf0)
        have HPG := Aside0.mk (Kd.R_putg HV5.out (0 : Int) M2)
        have p0 : (0 : Int) < (l0_5.length : Int) := by omega
        have GO := Aside0.mk gb; clear gb gl cl HG
        go_upto_region 20 with fail
        (try simp only [Act.put, List.setIfInBounds_toArray, List.set_cons_zero, List.set_cons_succ])
        have n1_ := Aside0.mk (show (W20.setCell ⟨go, 0, none⟩ (.int .u32 M2)).heap[g9]? = some (.cells #[.string a0_0, .int .u16 a0_1, .int .u16 a0_2, .int .u32 a0_3, .slice A9 l0_4.length c9, .slice (some ⟨go, 0, none⟩) l0_5.length d9, .slice C9 l0_6.length e9] 27 (0, 0)) from blk_grown BKg9.out HPG.out.2 (Kd.R_ne HV5.out BKg9.out (by decide)))
        have n2_ := Aside0.mk (show Kd.R Kd.string 9 (W20.setCell ⟨go, 0, none⟩ (.int .u32 M2)) _ _ _ _ from Kd.R_over' (v := (.slice (some ⟨go, 0, none⟩) l0_5.length d9 : Value)) HV4.out (Kd.R_typed HV5.out) (by decide) HPG.out.2)
        have n3_ := Aside0.mk (show Kd.R Kd.string 9 (W20.setCell ⟨go, 0, none⟩ (.int .u32 M2)) _ _ _ _ from Kd.R_over' (v := (.slice (some ⟨go, 0, none⟩) l0_5.length d9 : Value)) HV6.out (Kd.R_typed HV5.out) (by decide) HPG.out.2)
        have n4_ := Aside0.mk (show Kd.R (Kd.int .u32) 23 (W20.setCell ⟨go, 0, none⟩ (.int .u32 M2)) _ _ (.slice (some ⟨go, 0, none⟩) l0_5.length d9) (l0_5.set (0 : Int).toNat M2) from HPG.out.1)
        have n5_ := Aside0.mk (show Below w19.heap.size w19 (W20.setCell ⟨go, 0, none⟩ (.int .u32 M2)) from below_set HQ.out (Kd.R_base HV5.out go rfl))
        clear GE HPG HV4 HV5 HV6 HQ hx0 hf0 BKg9 GO zg9_0 zg9_1 zg9_2 zg9_3 zg9_4 zg9_5 zg9_6 fg9_0 fg9_1 fg9_2 fg9_3 fg9_4 fg9_5 fg9_6 zg2_0 zg2_1 zg2_2 zg2_3 zg2_4 zg2_5 zg2_6
        generalize (W20.setCell ⟨go, 0, none⟩ (.int .u32 M2)) = W21 at n1_ n2_ n3_ n4_ n5_ ⊢
        have zg9_0 : W21.cell? ⟨g9, 0, none⟩ = some (.string a0_0) := (blk_cell n1_.out 0).trans rfl
        have zg9_1 : W21.cell? ⟨g9, 1, none⟩ = some (.int .u16 a0_1) := (blk_cell n1_.out 1).trans rfl
        have zg9_2 : W21.cell? ⟨g9, 2, none⟩ = some (.int .u16 a0_2) := (blk_cell n1_.out 2).trans rfl
        have zg9_3 : W21.cell? ⟨g9, 3, none⟩ = some (.int .u32 a0_3) := (blk_cell n1_.out 3).trans rfl
        have zg9_4 : W21.cell? ⟨g9, 4, none⟩ = some (.slice A9 l0_4.length c9) := (blk_cell n1_.out 4).trans rfl
        have zg9_5 : W21.cell? ⟨g9, 5, none⟩ = some (.slice (some ⟨go, 0, none⟩) l0_5.length d9) := (blk_cell n1_.out 5).trans rfl
        have zg9_6 : W21.cell? ⟨g9, 6, none⟩ = some (.slice C9 l0_6.length e9) := (blk_cell n1_.out 6).trans rfl
        go_wp2_with (first | ((with_reducible refine gate_callee (f := 11) rfl ?_); refine goesL_ (some 81) rfl rfl Try.func11 (by kernel_rfl) rfl #[.agg #[.string a0_0, .int .u16 a0_1, .int .u16 a0_2, .int .u32 a0_3, .slice A9 l0_4.length c9, .slice (some ⟨go, 0, none⟩) l0_5.length d9, .slice C9 l0_6.length e9]] rfl (by (try simp only [List.map_toArray, List.map_cons, List.map_nil]); first | done | rfl) ?_; (refine (lim_last k4 a0_0 a0_1 a0_2 a0_3 A9 c9 l0_4 (some ⟨go, 0, none⟩) d9 l0_5 M2 C9 e9 l0_6 50 _ (Kd.R_reads' n2_.out).2.2 (Kd.R_reads' n2_.out).2.1 (Kd.R_reads' n4_.out).2.2 (Kd.R_reads' n4_.out).2.1 (Kd.R_reads' n3_.out).2.2 (Kd.R_reads' n3_.out).2.1 K4.out).mono ?_); rintro e w22 ⟨rfl, hb⟩; refine ⟨_, rfl, ?_⟩; have n6_ := Aside0.mk (below_step n5_.out hb); clear hb zg9_0 zg9_1 zg9_2 zg9_3 zg9_4 zg9_5 zg9_6))
        go_ret
        exact ⟨rfl, below_step HB.out n6_.out⟩
    · have c41 : (a0_1 != 41) = true := bne_iff_ne.mpr h41
      rw [M1d.out] at hk0
      have K0 := Aside0.mk hk0
      clear hk0
      have H41 := Aside0.mk h41
      clear h41
      go_upto_region 9 with (first | (go_at_call 11; (with_reducible refine (rdata_Check.calls k0 a0_0 a0_1 a0_2 M1 A0_4 c0_4 l0_4 A0_5 c0_5 l0_5 A0_6 c0_6 l0_6 1 _ (Kd.C_below HR4.out (below_step HB.out HQ.out)) HC4.out (Kd.C_below HR5.out (below_step HB.out HQ.out)) HC5.out (Kd.C_below HR6.out (below_step HB.out HQ.out)) HC6.out K0.out).mono ?_); rintro e w7 ⟨rfl, hb⟩; have n1_ := Aside0.mk (below_step HQ.out hb); clear HQ hb zg2_0 zg2_1 zg2_2 zg2_3 zg2_4 zg2_5 zg2_6 zg5_0 zg5_1 zg5_2 zg5_3 zg5_4 zg5_5 zg5_6; have HQ := n1_; clear n1_))
      have n1_ := Aside0.mk (blk_below BKg2.out HQ.out); clear BKg2 BKg5; have BKg2 := n1_; clear n1_
      have n1_ := Aside0.mk (below_step HB.out HQ.out); clear HB HQ; have HB := n1_; clear n1_
      have HQ := Aside0.mk (Below.refl w7.heap.size w7)
      have zg2_0 : w7.cell? ⟨g2, 0, none⟩ = some (.string a0_0) := (blk_cell BKg2.out 0).trans rfl
      have zg2_1 : w7.cell? ⟨g2, 1, none⟩ = some (.int .u16 a0_1) := (blk_cell BKg2.out 1).trans rfl
      have zg2_2 : w7.cell? ⟨g2, 2, none⟩ = some (.int .u16 a0_2) := (blk_cell BKg2.out 2).trans rfl
      have zg2_3 : w7.cell? ⟨g2, 3, none⟩ = some (.int .u32 a0_3) := (blk_cell BKg2.out 3).trans rfl
      have zg2_4 : w7.cell? ⟨g2, 4, none⟩ = some (.slice A0_4 l0_4.length c0_4) := (blk_cell BKg2.out 4).trans rfl
      have zg2_5 : w7.cell? ⟨g2, 5, none⟩ = some (.slice A0_5 l0_5.length c0_5) := (blk_cell BKg2.out 5).trans rfl
      have zg2_6 : w7.cell? ⟨g2, 6, none⟩ = some (.slice A0_6 l0_6.length c0_6) := (blk_cell BKg2.out 6).trans rfl
      go_upto_region 10 with (first | ((with_reducible refine gate_dst (N := 6) rfl ?_); refine box_event ?hg (N := 6) ?hd (cs := #[.string (⟨#[]⟩ : ByteArray), .int .u16 0, .int .u16 0, .int .u32 0, .slice none 0 0, .slice none 0 0, .slice none 0 0]) (t := 27) ?hr ?_; (case hd => rfl); (case hg => rfl); (case hr => first | (go_simp; done) | (go_simp; rfl)); intro g6 hg w8 hbox hb; have yg6_0 : w8.cell? ⟨g6, 0, none⟩ = some (.string (⟨#[]⟩ : ByteArray)) := (blk_cell hbox 0).trans rfl; have yg6_1 : w8.cell? ⟨g6, 1, none⟩ = some (.int .u16 0) := (blk_cell hbox 1).trans rfl; have yg6_2 : w8.cell? ⟨g6, 2, none⟩ = some (.int .u16 0) := (blk_cell hbox 2).trans rfl; have yg6_3 : w8.cell? ⟨g6, 3, none⟩ = some (.int .u32 0) := (blk_cell hbox 3).trans rfl; have yg6_4 : w8.cell? ⟨g6, 4, none⟩ = some (.slice none 0 0) := (blk_cell hbox 4).trans rfl; have yg6_5 : w8.cell? ⟨g6, 5, none⟩ = some (.slice none 0 0) := (blk_cell hbox 5).trans rfl; have yg6_6 : w8.cell? ⟨g6, 6, none⟩ = some (.slice none 0 0) := (blk_cell hbox 6).trans rfl; have fg6_0 := blk_frozen hbox 0; have fg6_1 := blk_frozen hbox 1; have fg6_2 := blk_frozen hbox 2; have fg6_3 := blk_frozen hbox 3; have fg6_4 := blk_frozen hbox 4; have fg6_5 := blk_frozen hbox 5; have fg6_6 := blk_frozen hbox 6; have BQ := Aside0.mk hbox; have GE := Aside0.mk (show w7.heap.size ≤ g6 by rw [hg]; exact HQ.out.size); have n3_ := Aside0.mk (below_step HQ.out hb); clear hbox hb hg HQ; have HQ := n3_; clear n3_))
      (try simp only [Act.put, List.setIfInBounds_toArray, List.set_cons_zero, List.set_cons_succ])
      have n1_ := Aside0.mk (show (((((((w8.setCell ⟨g6, 0, none⟩ (.string a0_0)).setCell ⟨g6, 1, none⟩ (.int .u16 a0_1)).setCell ⟨g6, 2, none⟩ (.int .u16 a0_2)).setCell ⟨g6, 3, none⟩ (.int .u32 a0_3)).setCell ⟨g6, 4, none⟩ (.slice A0_4 l0_4.length c0_4)).setCell ⟨g6, 5, none⟩ (.slice A0_5 l0_5.length c0_5)).setCell ⟨g6, 6, none⟩ (.slice A0_6 l0_6.length c0_6)).heap[g6]? = some (.cells #[.string a0_0, .int .u16 a0_1, .int .u16 a0_2, .int .u32 a0_3, .slice A0_4 l0_4.length c0_4, .slice A0_5 l0_5.length c0_5, .slice A0_6 l0_6.length c0_6] 27 (0, 0)) from (blk_put (blk_put (blk_put (blk_put (blk_put (blk_put (blk_put BQ.out 0 _ rfl) 1 _ rfl) 2 _ rfl) 3 _ rfl) 4 _ rfl) 5 _ rfl) 6 _ rfl))
      have n2_ := Aside0.mk (show Below w7.heap.size w7 (((((((w8.setCell ⟨g6, 0, none⟩ (.string a0_0)).setCell ⟨g6, 1, none⟩ (.int .u16 a0_1)).setCell ⟨g6, 2, none⟩ (.int .u16 a0_2)).setCell ⟨g6, 3, none⟩ (.int .u32 a0_3)).setCell ⟨g6, 4, none⟩ (.slice A0_4 l0_4.length c0_4)).setCell ⟨g6, 5, none⟩ (.slice A0_5 l0_5.length c0_5)).setCell ⟨g6, 6, none⟩ (.slice A0_6 l0_6.length c0_6)) from (below_set (below_set (below_set (below_set (below_set (below_set (below_set HQ.out GE.out) GE.out) GE.out) GE.out) GE.out) GE.out) GE.out))
      clear BQ HQ yg6_0 yg6_1 yg6_2 yg6_3 yg6_4 yg6_5 yg6_6 fg6_0 fg6_1 fg6_2 fg6_3 fg6_4 fg6_5 fg6_6
      generalize (((((((w8.setCell ⟨g6, 0, none⟩ (.string a0_0)).setCell ⟨g6, 1, none⟩ (.int .u16 a0_1)).setCell ⟨g6, 2, none⟩ (.int .u16 a0_2)).setCell ⟨g6, 3, none⟩ (.int .u32 a0_3)).setCell ⟨g6, 4, none⟩ (.slice A0_4 l0_4.length c0_4)).setCell ⟨g6, 5, none⟩ (.slice A0_5 l0_5.length c0_5)).setCell ⟨g6, 6, none⟩ (.slice A0_6 l0_6.length c0_6)) = W9 at n1_ n2_ ⊢
      have BKg6 := n1_
      have HQ := n2_
      clear n1_ n2_
      clear zg2_0 zg2_1 zg2_2 zg2_3 zg2_4 zg2_5 zg2_6
      have n1_ := Aside0.mk (blk_below BKg2.out HQ.out)
      have zg2_0 : W9.cell? ⟨g2, 0, none⟩ = some (.string a0_0) := (blk_cell n1_.out 0).trans rfl
      have zg2_1 : W9.cell? ⟨g2, 1, none⟩ = some (.int .u16 a0_1) := (blk_cell n1_.out 1).trans rfl
      have zg2_2 : W9.cell? ⟨g2, 2, none⟩ = some (.int .u16 a0_2) := (blk_cell n1_.out 2).trans rfl
      have zg2_3 : W9.cell? ⟨g2, 3, none⟩ = some (.int .u32 a0_3) := (blk_cell n1_.out 3).trans rfl
      have zg2_4 : W9.cell? ⟨g2, 4, none⟩ = some (.slice A0_4 l0_4.length c0_4) := (blk_cell n1_.out 4).trans rfl
      have zg2_5 : W9.cell? ⟨g2, 5, none⟩ = some (.slice A0_5 l0_5.length c0_5) := (blk_cell n1_.out 5).trans rfl
      have zg2_6 : W9.cell? ⟨g2, 6, none⟩ = some (.slice A0_6 l0_6.length c0_6) := (blk_cell n1_.out 6).trans rfl
      clear n1_
      have fg6_0 := blk_frozen BKg6.out 0
      have fg6_1 := blk_frozen BKg6.out 1
      have fg6_2 := blk_frozen BKg6.out 2
      have fg6_3 := blk_frozen BKg6.out 3
      have fg6_4 := blk_frozen BKg6.out 4
      have fg6_5 := blk_frozen BKg6.out 5
      have fg6_6 := blk_frozen BKg6.out 6
      have zg6_0 : W9.cell? ⟨g6, 0, none⟩ = some (.string a0_0) := (blk_cell BKg6.out 0).trans rfl
      have zg6_1 : W9.cell? ⟨g6, 1, none⟩ = some (.int .u16 a0_1) := (blk_cell BKg6.out 1).trans rfl
      have zg6_2 : W9.cell? ⟨g6, 2, none⟩ = some (.int .u16 a0_2) := (blk_cell BKg6.out 2).trans rfl
      have zg6_3 : W9.cell? ⟨g6, 3, none⟩ = some (.int .u32 a0_3) := (blk_cell BKg6.out 3).trans rfl
      have zg6_4 : W9.cell? ⟨g6, 4, none⟩ = some (.slice A0_4 l0_4.length c0_4) := (blk_cell BKg6.out 4).trans rfl
      have zg6_5 : W9.cell? ⟨g6, 5, none⟩ = some (.slice A0_5 l0_5.length c0_5) := (blk_cell BKg6.out 5).trans rfl
      have zg6_6 : W9.cell? ⟨g6, 6, none⟩ = some (.slice A0_6 l0_6.length c0_6) := (blk_cell BKg6.out 6).trans rfl
      have hsz := HS0.out
      go_upto_region 11 with fail
      (try simp only [Act.put, List.setIfInBounds_toArray, List.set_cons_zero, List.set_cons_succ])
      have n1_ := Aside0.mk (show (W9.setCell ⟨g6, 0, none⟩ (.string (a0_0 ++ (⟨#[120]⟩ : ByteArray)))).heap[g6]? = some (.cells #[.string (a0_0 ++ (⟨#[120]⟩ : ByteArray)), .int .u16 a0_1, .int .u16 a0_2, .int .u32 a0_3, .slice A0_4 l0_4.length c0_4, .slice A0_5 l0_5.length c0_5, .slice A0_6 l0_6.length c0_6] 27 (0, 0)) from blk_put BKg6.out 0 _ rfl)
      have n2_ := Aside0.mk (show Below w7.heap.size w7 (W9.setCell ⟨g6, 0, none⟩ (.string (a0_0 ++ (⟨#[120]⟩ : ByteArray)))) from below_set HQ.out GE.out)
      clear hsz GE zg2_0 zg2_1 zg2_2 zg2_3 zg2_4 zg2_5 zg2_6 zg6_0 zg6_1 zg6_2 zg6_3 zg6_4 zg6_5 zg6_6 fg6_0 fg6_1 fg6_2 fg6_3 fg6_4 fg6_5 fg6_6
      generalize (W9.setCell ⟨g6, 0, none⟩ (.string (a0_0 ++ (⟨#[120]⟩ : ByteArray)))) = W10 at n1_ n2_ ⊢
      clear BKg6 HQ
      have BKg6 := n1_
      have HQ := n2_
      clear n1_ n2_
      have n1_ := Aside0.mk (blk_below BKg2.out HQ.out); clear BKg2; have BKg2 := n1_; clear n1_
      have n1_ := Aside0.mk (below_step HB.out HQ.out); clear HB HQ; have HB := n1_; clear n1_
      have HQ := Aside0.mk (Below.refl W10.heap.size W10)
      have zg2_0 : W10.cell? ⟨g2, 0, none⟩ = some (.string a0_0) := (blk_cell BKg2.out 0).trans rfl
      have zg2_1 : W10.cell? ⟨g2, 1, none⟩ = some (.int .u16 a0_1) := (blk_cell BKg2.out 1).trans rfl
      have zg2_2 : W10.cell? ⟨g2, 2, none⟩ = some (.int .u16 a0_2) := (blk_cell BKg2.out 2).trans rfl
      have zg2_3 : W10.cell? ⟨g2, 3, none⟩ = some (.int .u32 a0_3) := (blk_cell BKg2.out 3).trans rfl
      have zg2_4 : W10.cell? ⟨g2, 4, none⟩ = some (.slice A0_4 l0_4.length c0_4) := (blk_cell BKg2.out 4).trans rfl
      have zg2_5 : W10.cell? ⟨g2, 5, none⟩ = some (.slice A0_5 l0_5.length c0_5) := (blk_cell BKg2.out 5).trans rfl
      have zg2_6 : W10.cell? ⟨g2, 6, none⟩ = some (.slice A0_6 l0_6.length c0_6) := (blk_cell BKg2.out 6).trans rfl
      go_upto_region 12 with (first | ((with_reducible refine gate_callee (f := 15) rfl ?_); refine goesL_ (some 38) rfl rfl Try.func15 (by kernel_rfl) rfl #[.agg #[.string a0_0, .int .u16 a0_1, .int .u16 a0_2, .int .u32 a0_3, .slice A0_4 l0_4.length c0_4, .slice A0_5 l0_5.length c0_5, .slice A0_6 l0_6.length c0_6]] rfl (by (try simp only [List.map_toArray, List.map_cons, List.map_nil]); first | done | rfl) ?_; (with_reducible refine (nunciolaw05_Copied.calls a0_0 a0_1 a0_2 a0_3 A0_4 c0_4 l0_4 A0_5 c0_5 l0_5 A0_6 c0_6 l0_6 a0_0 a0_1 a0_2 a0_3 l0_4 l0_5 l0_6 _ (Kd.C_below HR4.out (below_step HB.out HQ.out)) HC4.out (Kd.C_below HR5.out (below_step HB.out HQ.out)) HC5.out (Kd.C_below HR6.out (below_step HB.out HQ.out)) HC6.out HP.out).mono ?_); rintro e w11 ⟨v4, v5, v6, rfl, ho4, ho5, ho6, hb⟩; refine ⟨_, rfl, ?_⟩; obtain ⟨A7, c7, rfl⟩ := Kd.R_slice ho4; obtain ⟨B7, d7, rfl⟩ := Kd.R_slice ho5; obtain ⟨C7, e7, rfl⟩ := Kd.R_slice ho6; have HV4 := Aside0.mk ho4; have HV5 := Aside0.mk ho5; have HV6 := Aside0.mk ho6; have n1_ := Aside0.mk (below_step HQ.out hb); clear HQ hb ho4 ho5 ho6 zg2_0 zg2_1 zg2_2 zg2_3 zg2_4 zg2_5 zg2_6; have HQ := n1_; have HE := Aside0.mk (Below.refl w11.heap.size w11); clear n1_) | ((with_reducible refine gate_dst (N := 7) rfl ?_); refine box_event ?hg (N := 7) ?hd (cs := #[.string (⟨#[]⟩ : ByteArray), .int .u16 0, .int .u16 0, .int .u32 0, .slice none 0 0, .slice none 0 0, .slice none 0 0]) (t := 27) ?hr ?_; (case hd => rfl); (case hg => rfl); (case hr => first | (go_simp; done) | (go_simp; rfl)); intro g7 hg w12 hbox hb; have yg7_0 : w12.cell? ⟨g7, 0, none⟩ = some (.string (⟨#[]⟩ : ByteArray)) := (blk_cell hbox 0).trans rfl; have yg7_1 : w12.cell? ⟨g7, 1, none⟩ = some (.int .u16 0) := (blk_cell hbox 1).trans rfl; have yg7_2 : w12.cell? ⟨g7, 2, none⟩ = some (.int .u16 0) := (blk_cell hbox 2).trans rfl; have yg7_3 : w12.cell? ⟨g7, 3, none⟩ = some (.int .u32 0) := (blk_cell hbox 3).trans rfl; have yg7_4 : w12.cell? ⟨g7, 4, none⟩ = some (.slice none 0 0) := (blk_cell hbox 4).trans rfl; have yg7_5 : w12.cell? ⟨g7, 5, none⟩ = some (.slice none 0 0) := (blk_cell hbox 5).trans rfl; have yg7_6 : w12.cell? ⟨g7, 6, none⟩ = some (.slice none 0 0) := (blk_cell hbox 6).trans rfl; have fg7_0 := blk_frozen hbox 0; have fg7_1 := blk_frozen hbox 1; have fg7_2 := blk_frozen hbox 2; have fg7_3 := blk_frozen hbox 3; have fg7_4 := blk_frozen hbox 4; have fg7_5 := blk_frozen hbox 5; have fg7_6 := blk_frozen hbox 6; have BQ := Aside0.mk hbox; have GE := Aside0.mk (show w11.heap.size ≤ g7 by rw [hg]; exact HE.out.size); have n3_ := Aside0.mk (below_step HE.out hb); clear hbox hb hg HE; have HE := n3_; clear n3_))
      (try simp only [Act.put, List.setIfInBounds_toArray, List.set_cons_zero, List.set_cons_succ])
      have n1_ := Aside0.mk (show (((((((w12.setCell ⟨g7, 0, none⟩ (.string a0_0)).setCell ⟨g7, 1, none⟩ (.int .u16 a0_1)).setCell ⟨g7, 2, none⟩ (.int .u16 a0_2)).setCell ⟨g7, 3, none⟩ (.int .u32 a0_3)).setCell ⟨g7, 4, none⟩ (.slice A7 l0_4.length c7)).setCell ⟨g7, 5, none⟩ (.slice B7 l0_5.length d7)).setCell ⟨g7, 6, none⟩ (.slice C7 l0_6.length e7)).heap[g7]? = some (.cells #[.string a0_0, .int .u16 a0_1, .int .u16 a0_2, .int .u32 a0_3, .slice A7 l0_4.length c7, .slice B7 l0_5.length d7, .slice C7 l0_6.length e7] 27 (0, 0)) from (blk_put (blk_put (blk_put (blk_put (blk_put (blk_put (blk_put BQ.out 0 _ rfl) 1 _ rfl) 2 _ rfl) 3 _ rfl) 4 _ rfl) 5 _ rfl) 6 _ rfl))
      have n2_ := Aside0.mk (show Below w11.heap.size w11 (((((((w12.setCell ⟨g7, 0, none⟩ (.string a0_0)).setCell ⟨g7, 1, none⟩ (.int .u16 a0_1)).setCell ⟨g7, 2, none⟩ (.int .u16 a0_2)).setCell ⟨g7, 3, none⟩ (.int .u32 a0_3)).setCell ⟨g7, 4, none⟩ (.slice A7 l0_4.length c7)).setCell ⟨g7, 5, none⟩ (.slice B7 l0_5.length d7)).setCell ⟨g7, 6, none⟩ (.slice C7 l0_6.length e7)) from (below_set (below_set (below_set (below_set (below_set (below_set (below_set HE.out GE.out) GE.out) GE.out) GE.out) GE.out) GE.out) GE.out))
      clear BQ HE yg7_0 yg7_1 yg7_2 yg7_3 yg7_4 yg7_5 yg7_6 fg7_0 fg7_1 fg7_2 fg7_3 fg7_4 fg7_5 fg7_6
      generalize (((((((w12.setCell ⟨g7, 0, none⟩ (.string a0_0)).setCell ⟨g7, 1, none⟩ (.int .u16 a0_1)).setCell ⟨g7, 2, none⟩ (.int .u16 a0_2)).setCell ⟨g7, 3, none⟩ (.int .u32 a0_3)).setCell ⟨g7, 4, none⟩ (.slice A7 l0_4.length c7)).setCell ⟨g7, 5, none⟩ (.slice B7 l0_5.length d7)).setCell ⟨g7, 6, none⟩ (.slice C7 l0_6.length e7)) = W11 at n1_ n2_ ⊢
      have BKg7 := n1_
      have HE := n2_
      clear n1_ n2_
      have n1_ := Aside0.mk (Kd.R_below HV4.out HE.out); clear HV4; have HV4 := n1_; clear n1_
      have n1_ := Aside0.mk (Kd.R_below HV5.out HE.out); clear HV5; have HV5 := n1_; clear n1_
      have n1_ := Aside0.mk (Kd.R_below HV6.out HE.out); clear HV6; have HV6 := n1_; clear n1_
      have GF := Aside0.mk (show W10.heap.size ≤ g7 from Nat.le_trans HQ.out.size GE.out)
      have n1_ := Aside0.mk (below_step HQ.out HE.out); clear HQ HE GE; have HQ := n1_; clear n1_
      have GE := GF; clear GF
      have zg7_0 : W11.cell? ⟨g7, 0, none⟩ = some (.string a0_0) := (blk_cell BKg7.out 0).trans rfl
      have zg7_1 : W11.cell? ⟨g7, 1, none⟩ = some (.int .u16 a0_1) := (blk_cell BKg7.out 1).trans rfl
      have zg7_2 : W11.cell? ⟨g7, 2, none⟩ = some (.int .u16 a0_2) := (blk_cell BKg7.out 2).trans rfl
      have zg7_3 : W11.cell? ⟨g7, 3, none⟩ = some (.int .u32 a0_3) := (blk_cell BKg7.out 3).trans rfl
      have zg7_4 : W11.cell? ⟨g7, 4, none⟩ = some (.slice A7 l0_4.length c7) := (blk_cell BKg7.out 4).trans rfl
      have zg7_5 : W11.cell? ⟨g7, 5, none⟩ = some (.slice B7 l0_5.length d7) := (blk_cell BKg7.out 5).trans rfl
      have zg7_6 : W11.cell? ⟨g7, 6, none⟩ = some (.slice C7 l0_6.length e7) := (blk_cell BKg7.out 6).trans rfl
      have fg7_0 := blk_frozen BKg7.out 0
      have fg7_1 := blk_frozen BKg7.out 1
      have fg7_2 := blk_frozen BKg7.out 2
      have fg7_3 := blk_frozen BKg7.out 3
      have fg7_4 := blk_frozen BKg7.out 4
      have fg7_5 := blk_frozen BKg7.out 5
      have fg7_6 := blk_frozen BKg7.out 6
      go_upto_region 13 with (first | ((with_reducible refine gate_builtin (b := .append) (xs := #[.tmp 40, .tmp 41]) rfl ?_); at_builtin; refine Kd.R_append Kd.string (w0 := W10) W10.heap.size rfl (.tmp 40) (.tmp 41) 24 9 (.string ⟨#[]⟩) 16 rfl Try.underlying24 info9 rfl (by decide) (by omega) (.slice A7 l0_4.length c7) l0_4 (⟨#[0]⟩ : ByteArray) [.string (⟨#[0]⟩ : ByteArray)] _ (fun _ => False) rfl (by first | (go_simp; done) | (go_simp; rfl)) rfl (fun _ hk => hk.elim) (fun k_ hk => Kd.fresh' (Kd.R_lt HV6.out) k_ hk) HV4.out HQ.out HQ.out.size (by have := HS4.out; omega) ?_; intro v1 w13 ho hb hg hat; rw [← NS.out] at ho; have n1_ := Aside0.mk (blk_grown BKg7.out hg (Kd.R_ne HV4.out BKg7.out (by decide))); have n2_ := Aside0.mk (Kd.R_over' HV5.out (Kd.R_typed HV4.out) (by decide) hg); have n3_ := Aside0.mk (Kd.R_after (ok := fun _ => True) (Kd.R_mono (ok' := fun k => True ∧ some k ≠ (.slice A7 l0_4.length c7 : Value).ownBlock) HV6.out (fun _ h => ⟨trivial, h⟩)) hg hat); have n4_ := Aside0.mk ho; have n5_ := Aside0.mk hb; clear BKg7 HV4 HV5 HV6 HQ hb ho hg hat zg7_0 zg7_1 zg7_2 zg7_3 zg7_4 zg7_5 zg7_6 fg7_0 fg7_1 fg7_2 fg7_3 fg7_4 fg7_5 fg7_6; have BKg7 := n1_; have HV5 := n2_; have HV6 := n3_; have HV4 := n4_; have HQ := n5_; clear n1_ n2_ n3_ n4_ n5_; obtain ⟨F7, f7, e_⟩ := Kd.R_slice HV4.out; subst e_; have zg7_0 : w13.cell? ⟨g7, 0, none⟩ = some (.string a0_0) := (blk_cell BKg7.out 0).trans rfl; have zg7_1 : w13.cell? ⟨g7, 1, none⟩ = some (.int .u16 a0_1) := (blk_cell BKg7.out 1).trans rfl; have zg7_2 : w13.cell? ⟨g7, 2, none⟩ = some (.int .u16 a0_2) := (blk_cell BKg7.out 2).trans rfl; have zg7_3 : w13.cell? ⟨g7, 3, none⟩ = some (.int .u32 a0_3) := (blk_cell BKg7.out 3).trans rfl; have zg7_4 : w13.cell? ⟨g7, 4, none⟩ = some (.slice A7 l0_4.length c7) := (blk_cell BKg7.out 4).trans rfl; have zg7_5 : w13.cell? ⟨g7, 5, none⟩ = some (.slice B7 l0_5.length d7) := (blk_cell BKg7.out 5).trans rfl; have zg7_6 : w13.cell? ⟨g7, 6, none⟩ = some (.slice C7 l0_6.length e7) := (blk_cell BKg7.out 6).trans rfl; have fg7_0 := blk_frozen BKg7.out 0; have fg7_1 := blk_frozen BKg7.out 1; have fg7_2 := blk_frozen BKg7.out 2; have fg7_3 := blk_frozen BKg7.out 3; have fg7_4 := blk_frozen BKg7.out 4; have fg7_5 := blk_frozen BKg7.out 5; have fg7_6 := blk_frozen BKg7.out 6))
      (try simp only [Act.put, List.setIfInBounds_toArray, List.set_cons_zero, List.set_cons_succ])
      have n1_ := Aside0.mk (show (w13.setCell ⟨g7, 4, none⟩ (.slice F7 ns.length f7)).heap[g7]? = some (.cells #[.string a0_0, .int .u16 a0_1, .int .u16 a0_2, .int .u32 a0_3, .slice F7 ns.length f7, .slice B7 l0_5.length d7, .slice C7 l0_6.length e7] 27 (0, 0)) from blk_put BKg7.out 4 _ rfl)
      have n2_ := Aside0.mk (show Below W10.heap.size W10 (w13.setCell ⟨g7, 4, none⟩ (.slice F7 ns.length f7)) from below_set HQ.out GE.out)
      have m4_ := Aside0.mk (show Kd.R Kd.string 9 (w13.setCell ⟨g7, 4, none⟩ (.slice F7 ns.length f7)) _ _ _ _ from Kd.R_far (p := ⟨g7, 4, none⟩) (Kd.R_types HV4.out BKg7.out (by decide)) (fun _ hk => hk.2) (.slice F7 ns.length f7))
      have m5_ := Aside0.mk (show Kd.R (Kd.int .u32) 23 (w13.setCell ⟨g7, 4, none⟩ (.slice F7 ns.length f7)) _ _ _ _ from Kd.R_far (p := ⟨g7, 4, none⟩) (Kd.R_types HV5.out BKg7.out (by decide)) (fun _ hk => hk.2) (.slice F7 ns.length f7))
      have m6_ := Aside0.mk (show Kd.R Kd.string 9 (w13.setCell ⟨g7, 4, none⟩ (.slice F7 ns.length f7)) _ _ _ _ from Kd.R_far (p := ⟨g7, 4, none⟩) (Kd.R_types HV6.out BKg7.out (by decide)) (fun _ hk => hk.2) (.slice F7 ns.length f7))
      clear GE HV4 HV5 HV6 zg7_0 zg7_1 zg7_2 zg7_3 zg7_4 zg7_5 zg7_6 fg7_0 fg7_1 fg7_2 fg7_3 fg7_4 fg7_5 fg7_6
      generalize (w13.setCell ⟨g7, 4, none⟩ (.slice F7 ns.length f7)) = W12 at n1_ n2_ m4_ m5_ m6_ ⊢
      clear BKg7 HQ
      have BKg7 := n1_; have HQ := n2_; clear n1_ n2_
      have X74 := Aside0.mk (Kd.R_reads' m4_.out).2.2; have Y74 := Aside0.mk (Kd.R_reads' m4_.out).2.1; clear m4_
      have X75 := Aside0.mk (Kd.R_reads' m5_.out).2.2; have Y75 := Aside0.mk (Kd.R_reads' m5_.out).2.1; clear m5_
      have X76 := Aside0.mk (Kd.R_reads' m6_.out).2.2; have Y76 := Aside0.mk (Kd.R_reads' m6_.out).2.1; clear m6_
      have n1_ := Aside0.mk (blk_below BKg2.out HQ.out); clear BKg2; have BKg2 := n1_; clear n1_
      have n1_ := Aside0.mk (blk_below BKg6.out HQ.out); clear BKg6; have BKg6 := n1_; clear n1_
      have n1_ := Aside0.mk (below_step HB.out HQ.out); clear HB HQ; have HB := n1_; clear n1_
      have HQ := Aside0.mk (Below.refl W12.heap.size W12)
      have zg2_0 : W12.cell? ⟨g2, 0, none⟩ = some (.string a0_0) := (blk_cell BKg2.out 0).trans rfl
      have zg2_1 : W12.cell? ⟨g2, 1, none⟩ = some (.int .u16 a0_1) := (blk_cell BKg2.out 1).trans rfl
      have zg2_2 : W12.cell? ⟨g2, 2, none⟩ = some (.int .u16 a0_2) := (blk_cell BKg2.out 2).trans rfl
      have zg2_3 : W12.cell? ⟨g2, 3, none⟩ = some (.int .u32 a0_3) := (blk_cell BKg2.out 3).trans rfl
      have zg2_4 : W12.cell? ⟨g2, 4, none⟩ = some (.slice A0_4 l0_4.length c0_4) := (blk_cell BKg2.out 4).trans rfl
      have zg2_5 : W12.cell? ⟨g2, 5, none⟩ = some (.slice A0_5 l0_5.length c0_5) := (blk_cell BKg2.out 5).trans rfl
      have zg2_6 : W12.cell? ⟨g2, 6, none⟩ = some (.slice A0_6 l0_6.length c0_6) := (blk_cell BKg2.out 6).trans rfl
      go_upto_region 14 with (first | ((with_reducible refine gate_callee (f := 15) rfl ?_); refine goesL_ (some 45) rfl rfl Try.func15 (by kernel_rfl) rfl #[.agg #[.string a0_0, .int .u16 a0_1, .int .u16 a0_2, .int .u32 a0_3, .slice A0_4 l0_4.length c0_4, .slice A0_5 l0_5.length c0_5, .slice A0_6 l0_6.length c0_6]] rfl (by (try simp only [List.map_toArray, List.map_cons, List.map_nil]); first | done | rfl) ?_; (with_reducible refine (nunciolaw05_Copied.calls a0_0 a0_1 a0_2 a0_3 A0_4 c0_4 l0_4 A0_5 c0_5 l0_5 A0_6 c0_6 l0_6 a0_0 a0_1 a0_2 a0_3 l0_4 l0_5 l0_6 _ (Kd.C_below HR4.out (below_step HB.out HQ.out)) HC4.out (Kd.C_below HR5.out (below_step HB.out HQ.out)) HC5.out (Kd.C_below HR6.out (below_step HB.out HQ.out)) HC6.out HP.out).mono ?_); rintro e w14 ⟨v4, v5, v6, rfl, ho4, ho5, ho6, hb⟩; refine ⟨_, rfl, ?_⟩; obtain ⟨A8, c8, rfl⟩ := Kd.R_slice ho4; obtain ⟨B8, d8, rfl⟩ := Kd.R_slice ho5; obtain ⟨C8, e8, rfl⟩ := Kd.R_slice ho6; have HV4 := Aside0.mk ho4; have HV5 := Aside0.mk ho5; have HV6 := Aside0.mk ho6; have n1_ := Aside0.mk (below_step HQ.out hb); clear HQ hb ho4 ho5 ho6 zg2_0 zg2_1 zg2_2 zg2_3 zg2_4 zg2_5 zg2_6; have HQ := n1_; have HE := Aside0.mk (Below.refl w14.heap.size w14); clear n1_) | ((with_reducible refine gate_dst (N := 8) rfl ?_); refine box_event ?hg (N := 8) ?hd (cs := #[.string (⟨#[]⟩ : ByteArray), .int .u16 0, .int .u16 0, .int .u32 0, .slice none 0 0, .slice none 0 0, .slice none 0 0]) (t := 27) ?hr ?_; (case hd => rfl); (case hg => rfl); (case hr => first | (go_simp; done) | (go_simp; rfl)); intro g8 hg w15 hbox hb; have yg8_0 : w15.cell? ⟨g8, 0, none⟩ = some (.string (⟨#[]⟩ : ByteArray)) := (blk_cell hbox 0).trans rfl; have yg8_1 : w15.cell? ⟨g8, 1, none⟩ = some (.int .u16 0) := (blk_cell hbox 1).trans rfl; have yg8_2 : w15.cell? ⟨g8, 2, none⟩ = some (.int .u16 0) := (blk_cell hbox 2).trans rfl; have yg8_3 : w15.cell? ⟨g8, 3, none⟩ = some (.int .u32 0) := (blk_cell hbox 3).trans rfl; have yg8_4 : w15.cell? ⟨g8, 4, none⟩ = some (.slice none 0 0) := (blk_cell hbox 4).trans rfl; have yg8_5 : w15.cell? ⟨g8, 5, none⟩ = some (.slice none 0 0) := (blk_cell hbox 5).trans rfl; have yg8_6 : w15.cell? ⟨g8, 6, none⟩ = some (.slice none 0 0) := (blk_cell hbox 6).trans rfl; have fg8_0 := blk_frozen hbox 0; have fg8_1 := blk_frozen hbox 1; have fg8_2 := blk_frozen hbox 2; have fg8_3 := blk_frozen hbox 3; have fg8_4 := blk_frozen hbox 4; have fg8_5 := blk_frozen hbox 5; have fg8_6 := blk_frozen hbox 6; have BQ := Aside0.mk hbox; have GE := Aside0.mk (show w14.heap.size ≤ g8 by rw [hg]; exact HE.out.size); have n3_ := Aside0.mk (below_step HE.out hb); clear hbox hb hg HE; have HE := n3_; clear n3_))
      (try simp only [Act.put, List.setIfInBounds_toArray, List.set_cons_zero, List.set_cons_succ])
      have n1_ := Aside0.mk (show (((((((w15.setCell ⟨g8, 0, none⟩ (.string a0_0)).setCell ⟨g8, 1, none⟩ (.int .u16 a0_1)).setCell ⟨g8, 2, none⟩ (.int .u16 a0_2)).setCell ⟨g8, 3, none⟩ (.int .u32 a0_3)).setCell ⟨g8, 4, none⟩ (.slice A8 l0_4.length c8)).setCell ⟨g8, 5, none⟩ (.slice B8 l0_5.length d8)).setCell ⟨g8, 6, none⟩ (.slice C8 l0_6.length e8)).heap[g8]? = some (.cells #[.string a0_0, .int .u16 a0_1, .int .u16 a0_2, .int .u32 a0_3, .slice A8 l0_4.length c8, .slice B8 l0_5.length d8, .slice C8 l0_6.length e8] 27 (0, 0)) from (blk_put (blk_put (blk_put (blk_put (blk_put (blk_put (blk_put BQ.out 0 _ rfl) 1 _ rfl) 2 _ rfl) 3 _ rfl) 4 _ rfl) 5 _ rfl) 6 _ rfl))
      have n2_ := Aside0.mk (show Below w14.heap.size w14 (((((((w15.setCell ⟨g8, 0, none⟩ (.string a0_0)).setCell ⟨g8, 1, none⟩ (.int .u16 a0_1)).setCell ⟨g8, 2, none⟩ (.int .u16 a0_2)).setCell ⟨g8, 3, none⟩ (.int .u32 a0_3)).setCell ⟨g8, 4, none⟩ (.slice A8 l0_4.length c8)).setCell ⟨g8, 5, none⟩ (.slice B8 l0_5.length d8)).setCell ⟨g8, 6, none⟩ (.slice C8 l0_6.length e8)) from (below_set (below_set (below_set (below_set (below_set (below_set (below_set HE.out GE.out) GE.out) GE.out) GE.out) GE.out) GE.out) GE.out))
      clear BQ HE yg8_0 yg8_1 yg8_2 yg8_3 yg8_4 yg8_5 yg8_6 fg8_0 fg8_1 fg8_2 fg8_3 fg8_4 fg8_5 fg8_6
      generalize (((((((w15.setCell ⟨g8, 0, none⟩ (.string a0_0)).setCell ⟨g8, 1, none⟩ (.int .u16 a0_1)).setCell ⟨g8, 2, none⟩ (.int .u16 a0_2)).setCell ⟨g8, 3, none⟩ (.int .u32 a0_3)).setCell ⟨g8, 4, none⟩ (.slice A8 l0_4.length c8)).setCell ⟨g8, 5, none⟩ (.slice B8 l0_5.length d8)).setCell ⟨g8, 6, none⟩ (.slice C8 l0_6.length e8)) = W13 at n1_ n2_ ⊢
      have BKg8 := n1_
      have HE := n2_
      clear n1_ n2_
      have n1_ := Aside0.mk (Kd.R_below HV4.out HE.out); clear HV4; have HV4 := n1_; clear n1_
      have n1_ := Aside0.mk (Kd.R_below HV5.out HE.out); clear HV5; have HV5 := n1_; clear n1_
      have n1_ := Aside0.mk (Kd.R_below HV6.out HE.out); clear HV6; have HV6 := n1_; clear n1_
      have GF := Aside0.mk (show W12.heap.size ≤ g8 from Nat.le_trans HQ.out.size GE.out)
      have n1_ := Aside0.mk (below_step HQ.out HE.out); clear HQ HE GE; have HQ := n1_; clear n1_
      have GE := GF; clear GF
      have zg8_0 : W13.cell? ⟨g8, 0, none⟩ = some (.string a0_0) := (blk_cell BKg8.out 0).trans rfl
      have zg8_1 : W13.cell? ⟨g8, 1, none⟩ = some (.int .u16 a0_1) := (blk_cell BKg8.out 1).trans rfl
      have zg8_2 : W13.cell? ⟨g8, 2, none⟩ = some (.int .u16 a0_2) := (blk_cell BKg8.out 2).trans rfl
      have zg8_3 : W13.cell? ⟨g8, 3, none⟩ = some (.int .u32 a0_3) := (blk_cell BKg8.out 3).trans rfl
      have zg8_4 : W13.cell? ⟨g8, 4, none⟩ = some (.slice A8 l0_4.length c8) := (blk_cell BKg8.out 4).trans rfl
      have zg8_5 : W13.cell? ⟨g8, 5, none⟩ = some (.slice B8 l0_5.length d8) := (blk_cell BKg8.out 5).trans rfl
      have zg8_6 : W13.cell? ⟨g8, 6, none⟩ = some (.slice C8 l0_6.length e8) := (blk_cell BKg8.out 6).trans rfl
      have fg8_0 := blk_frozen BKg8.out 0
      have fg8_1 := blk_frozen BKg8.out 1
      have fg8_2 := blk_frozen BKg8.out 2
      have fg8_3 := blk_frozen BKg8.out 3
      have fg8_4 := blk_frozen BKg8.out 4
      have fg8_5 := blk_frozen BKg8.out 5
      have fg8_6 := blk_frozen BKg8.out 6
      go_upto_region 15 with (first | ((with_reducible refine gate_builtin (b := .append) (xs := #[.tmp 47, .tmp 48]) rfl ?_); at_builtin; refine Kd.R_append (Kd.int .u32) (w0 := W12) W12.heap.size rfl (.tmp 47) (.tmp 48) 25 23 (.int .u32 0) 4 rfl Try.underlying25 info23 rfl (by decide) (by omega) (.slice B8 l0_5.length d8) l0_5 (0 : Int) [.int .u32 0] _ (fun _ => False) rfl (by first | (go_simp; done) | (go_simp; rfl)) rfl (fun _ hk => hk.elim) (fun _ _ => trivial) HV5.out HQ.out HQ.out.size (by have := HS5.out; omega) ?_; intro v1 w16 ho hb hg hat; rw [← US.out] at ho; have n1_ := Aside0.mk (blk_grown BKg8.out hg (Kd.R_ne HV5.out BKg8.out (by decide))); have n2_ := Aside0.mk (Kd.R_over' HV4.out (Kd.R_typed HV5.out) (by decide) hg); have n3_ := Aside0.mk (Kd.R_over' HV6.out (Kd.R_typed HV5.out) (by decide) hg); have n4_ := Aside0.mk ho; have n5_ := Aside0.mk hb; clear BKg8 HV4 HV5 HV6 HQ hb ho hg hat zg8_0 zg8_1 zg8_2 zg8_3 zg8_4 zg8_5 zg8_6 fg8_0 fg8_1 fg8_2 fg8_3 fg8_4 fg8_5 fg8_6; have BKg8 := n1_; have HV4 := n2_; have HV6 := n3_; have HV5 := n4_; have HQ := n5_; clear n1_ n2_ n3_ n4_ n5_; obtain ⟨F8, f8, e_⟩ := Kd.R_slice HV5.out; subst e_; have zg8_0 : w16.cell? ⟨g8, 0, none⟩ = some (.string a0_0) := (blk_cell BKg8.out 0).trans rfl; have zg8_1 : w16.cell? ⟨g8, 1, none⟩ = some (.int .u16 a0_1) := (blk_cell BKg8.out 1).trans rfl; have zg8_2 : w16.cell? ⟨g8, 2, none⟩ = some (.int .u16 a0_2) := (blk_cell BKg8.out 2).trans rfl; have zg8_3 : w16.cell? ⟨g8, 3, none⟩ = some (.int .u32 a0_3) := (blk_cell BKg8.out 3).trans rfl; have zg8_4 : w16.cell? ⟨g8, 4, none⟩ = some (.slice A8 l0_4.length c8) := (blk_cell BKg8.out 4).trans rfl; have zg8_5 : w16.cell? ⟨g8, 5, none⟩ = some (.slice B8 l0_5.length d8) := (blk_cell BKg8.out 5).trans rfl; have zg8_6 : w16.cell? ⟨g8, 6, none⟩ = some (.slice C8 l0_6.length e8) := (blk_cell BKg8.out 6).trans rfl; have fg8_0 := blk_frozen BKg8.out 0; have fg8_1 := blk_frozen BKg8.out 1; have fg8_2 := blk_frozen BKg8.out 2; have fg8_3 := blk_frozen BKg8.out 3; have fg8_4 := blk_frozen BKg8.out 4; have fg8_5 := blk_frozen BKg8.out 5; have fg8_6 := blk_frozen BKg8.out 6))
      (try simp only [Act.put, List.setIfInBounds_toArray, List.set_cons_zero, List.set_cons_succ])
      have n1_ := Aside0.mk (show (w16.setCell ⟨g8, 5, none⟩ (.slice F8 us.length f8)).heap[g8]? = some (.cells #[.string a0_0, .int .u16 a0_1, .int .u16 a0_2, .int .u32 a0_3, .slice A8 l0_4.length c8, .slice F8 us.length f8, .slice C8 l0_6.length e8] 27 (0, 0)) from blk_put BKg8.out 5 _ rfl)
      have n2_ := Aside0.mk (show Below W12.heap.size W12 (w16.setCell ⟨g8, 5, none⟩ (.slice F8 us.length f8)) from below_set HQ.out GE.out)
      have m4_ := Aside0.mk (show Kd.R Kd.string 9 (w16.setCell ⟨g8, 5, none⟩ (.slice F8 us.length f8)) _ _ _ _ from Kd.R_far (p := ⟨g8, 5, none⟩) (Kd.R_types HV4.out BKg8.out (by decide)) (fun _ hk => hk.2) (.slice F8 us.length f8))
      have m5_ := Aside0.mk (show Kd.R (Kd.int .u32) 23 (w16.setCell ⟨g8, 5, none⟩ (.slice F8 us.length f8)) _ _ _ _ from Kd.R_far (p := ⟨g8, 5, none⟩) (Kd.R_types HV5.out BKg8.out (by decide)) (fun _ hk => hk.2) (.slice F8 us.length f8))
      have m6_ := Aside0.mk (show Kd.R Kd.string 9 (w16.setCell ⟨g8, 5, none⟩ (.slice F8 us.length f8)) _ _ _ _ from Kd.R_far (p := ⟨g8, 5, none⟩) (Kd.R_types HV6.out BKg8.out (by decide)) (fun _ hk => hk.2) (.slice F8 us.length f8))
      clear GE HV4 HV5 HV6 zg8_0 zg8_1 zg8_2 zg8_3 zg8_4 zg8_5 zg8_6 fg8_0 fg8_1 fg8_2 fg8_3 fg8_4 fg8_5 fg8_6
      generalize (w16.setCell ⟨g8, 5, none⟩ (.slice F8 us.length f8)) = W14 at n1_ n2_ m4_ m5_ m6_ ⊢
      clear BKg8 HQ
      have BKg8 := n1_; have HQ := n2_; clear n1_ n2_
      have X84 := Aside0.mk (Kd.R_reads' m4_.out).2.2; have Y84 := Aside0.mk (Kd.R_reads' m4_.out).2.1; clear m4_
      have X85 := Aside0.mk (Kd.R_reads' m5_.out).2.2; have Y85 := Aside0.mk (Kd.R_reads' m5_.out).2.1; clear m5_
      have X86 := Aside0.mk (Kd.R_reads' m6_.out).2.2; have Y86 := Aside0.mk (Kd.R_reads' m6_.out).2.1; clear m6_
      have n1_ := Aside0.mk (blk_below BKg2.out HQ.out); clear BKg2; have BKg2 := n1_; clear n1_
      have n1_ := Aside0.mk (blk_below BKg6.out HQ.out); clear BKg6; have BKg6 := n1_; clear n1_
      have n1_ := Aside0.mk (blk_below BKg7.out HQ.out); clear BKg7; have BKg7 := n1_; clear n1_
      have n1_ := Aside0.mk (Kd.C_below X74.out HQ.out); clear X74; have X74 := n1_; clear n1_
      have n1_ := Aside0.mk (Kd.C_below X75.out HQ.out); clear X75; have X75 := n1_; clear n1_
      have n1_ := Aside0.mk (Kd.C_below X76.out HQ.out); clear X76; have X76 := n1_; clear n1_
      have n1_ := Aside0.mk (below_step HB.out HQ.out); clear HB HQ; have HB := n1_; clear n1_
      have HQ := Aside0.mk (Below.refl W14.heap.size W14)
      have zg6_0 : W14.cell? ⟨g6, 0, none⟩ = some (.string (a0_0 ++ (⟨#[120]⟩ : ByteArray))) := (blk_cell BKg6.out 0).trans rfl
      have zg6_1 : W14.cell? ⟨g6, 1, none⟩ = some (.int .u16 a0_1) := (blk_cell BKg6.out 1).trans rfl
      have zg6_2 : W14.cell? ⟨g6, 2, none⟩ = some (.int .u16 a0_2) := (blk_cell BKg6.out 2).trans rfl
      have zg6_3 : W14.cell? ⟨g6, 3, none⟩ = some (.int .u32 a0_3) := (blk_cell BKg6.out 3).trans rfl
      have zg6_4 : W14.cell? ⟨g6, 4, none⟩ = some (.slice A0_4 l0_4.length c0_4) := (blk_cell BKg6.out 4).trans rfl
      have zg6_5 : W14.cell? ⟨g6, 5, none⟩ = some (.slice A0_5 l0_5.length c0_5) := (blk_cell BKg6.out 5).trans rfl
      have zg6_6 : W14.cell? ⟨g6, 6, none⟩ = some (.slice A0_6 l0_6.length c0_6) := (blk_cell BKg6.out 6).trans rfl
      have zg7_0 : W14.cell? ⟨g7, 0, none⟩ = some (.string a0_0) := (blk_cell BKg7.out 0).trans rfl
      have zg7_1 : W14.cell? ⟨g7, 1, none⟩ = some (.int .u16 a0_1) := (blk_cell BKg7.out 1).trans rfl
      have zg7_2 : W14.cell? ⟨g7, 2, none⟩ = some (.int .u16 a0_2) := (blk_cell BKg7.out 2).trans rfl
      have zg7_3 : W14.cell? ⟨g7, 3, none⟩ = some (.int .u32 a0_3) := (blk_cell BKg7.out 3).trans rfl
      have zg7_4 : W14.cell? ⟨g7, 4, none⟩ = some (.slice F7 ns.length f7) := (blk_cell BKg7.out 4).trans rfl
      have zg7_5 : W14.cell? ⟨g7, 5, none⟩ = some (.slice B7 l0_5.length d7) := (blk_cell BKg7.out 5).trans rfl
      have zg7_6 : W14.cell? ⟨g7, 6, none⟩ = some (.slice C7 l0_6.length e7) := (blk_cell BKg7.out 6).trans rfl
      have zg8_0 : W14.cell? ⟨g8, 0, none⟩ = some (.string a0_0) := (blk_cell BKg8.out 0).trans rfl
      have zg8_1 : W14.cell? ⟨g8, 1, none⟩ = some (.int .u16 a0_1) := (blk_cell BKg8.out 1).trans rfl
      have zg8_2 : W14.cell? ⟨g8, 2, none⟩ = some (.int .u16 a0_2) := (blk_cell BKg8.out 2).trans rfl
      have zg8_3 : W14.cell? ⟨g8, 3, none⟩ = some (.int .u32 a0_3) := (blk_cell BKg8.out 3).trans rfl
      have zg8_4 : W14.cell? ⟨g8, 4, none⟩ = some (.slice A8 l0_4.length c8) := (blk_cell BKg8.out 4).trans rfl
      have zg8_5 : W14.cell? ⟨g8, 5, none⟩ = some (.slice F8 us.length f8) := (blk_cell BKg8.out 5).trans rfl
      have zg8_6 : W14.cell? ⟨g8, 6, none⟩ = some (.slice C8 l0_6.length e8) := (blk_cell BKg8.out 6).trans rfl
      go_upto_region 17 with (first | (go_at_call 11; (with_reducible refine (rdata_Check.calls k1 (a0_0 ++ (⟨#[120]⟩ : ByteArray)) a0_1 a0_2 a0_3 A0_4 c0_4 l0_4 A0_5 c0_5 l0_5 A0_6 c0_6 l0_6 40 _ (Kd.C_below HR4.out (below_step HB.out HQ.out)) HC4.out (Kd.C_below HR5.out (below_step HB.out HQ.out)) HC5.out (Kd.C_below HR6.out (below_step HB.out HQ.out)) HC6.out K1.out).mono ?_); rintro e w17 ⟨rfl, hb⟩; have n1_ := Aside0.mk (below_step HQ.out hb); clear HQ hb zg6_0 zg6_1 zg6_2 zg6_3 zg6_4 zg6_5 zg6_6 zg7_0 zg7_1 zg7_2 zg7_3 zg7_4 zg7_5 zg7_6 zg8_0 zg8_1 zg8_2 zg8_3 zg8_4 zg8_5 zg8_6; have HQ := n1_; clear n1_; have zg7_0 : w17.cell? ⟨g7, 0, none⟩ = some (.string a0_0) := (blk_cell (blk_below BKg7.out HQ.out) 0).trans rfl; have zg7_1 : w17.cell? ⟨g7, 1, none⟩ = some (.int .u16 a0_1) := (blk_cell (blk_below BKg7.out HQ.out) 1).trans rfl; have zg7_2 : w17.cell? ⟨g7, 2, none⟩ = some (.int .u16 a0_2) := (blk_cell (blk_below BKg7.out HQ.out) 2).trans rfl; have zg7_3 : w17.cell? ⟨g7, 3, none⟩ = some (.int .u32 a0_3) := (blk_cell (blk_below BKg7.out HQ.out) 3).trans rfl; have zg7_4 : w17.cell? ⟨g7, 4, none⟩ = some (.slice F7 ns.length f7) := (blk_cell (blk_below BKg7.out HQ.out) 4).trans rfl; have zg7_5 : w17.cell? ⟨g7, 5, none⟩ = some (.slice B7 l0_5.length d7) := (blk_cell (blk_below BKg7.out HQ.out) 5).trans rfl; have zg7_6 : w17.cell? ⟨g7, 6, none⟩ = some (.slice C7 l0_6.length e7) := (blk_cell (blk_below BKg7.out HQ.out) 6).trans rfl; have zg8_0 : w17.cell? ⟨g8, 0, none⟩ = some (.string a0_0) := (blk_cell (blk_below BKg8.out HQ.out) 0).trans rfl; have zg8_1 : w17.cell? ⟨g8, 1, none⟩ = some (.int .u16 a0_1) := (blk_cell (blk_below BKg8.out HQ.out) 1).trans rfl; have zg8_2 : w17.cell? ⟨g8, 2, none⟩ = some (.int .u16 a0_2) := (blk_cell (blk_below BKg8.out HQ.out) 2).trans rfl; have zg8_3 : w17.cell? ⟨g8, 3, none⟩ = some (.int .u32 a0_3) := (blk_cell (blk_below BKg8.out HQ.out) 3).trans rfl; have zg8_4 : w17.cell? ⟨g8, 4, none⟩ = some (.slice A8 l0_4.length c8) := (blk_cell (blk_below BKg8.out HQ.out) 4).trans rfl; have zg8_5 : w17.cell? ⟨g8, 5, none⟩ = some (.slice F8 us.length f8) := (blk_cell (blk_below BKg8.out HQ.out) 5).trans rfl; have zg8_6 : w17.cell? ⟨g8, 6, none⟩ = some (.slice C8 l0_6.length e8) := (blk_cell (blk_below BKg8.out HQ.out) 6).trans rfl) | (go_at_call 11; (with_reducible refine (rdata_Check.calls k2 a0_0 a0_1 a0_2 a0_3 F7 f7 ns B7 d7 l0_5 C7 e7 l0_6 50 _ (Kd.C_below X74.out HQ.out) Y74.out (Kd.C_below X75.out HQ.out) Y75.out (Kd.C_below X76.out HQ.out) Y76.out K2.out).mono ?_); rintro e w18 ⟨rfl, hb⟩; have n1_ := Aside0.mk (below_step HQ.out hb); clear HQ hb zg7_0 zg7_1 zg7_2 zg7_3 zg7_4 zg7_5 zg7_6 zg8_0 zg8_1 zg8_2 zg8_3 zg8_4 zg8_5 zg8_6; have HQ := n1_; clear n1_; have zg8_0 : w18.cell? ⟨g8, 0, none⟩ = some (.string a0_0) := (blk_cell (blk_below BKg8.out HQ.out) 0).trans rfl; have zg8_1 : w18.cell? ⟨g8, 1, none⟩ = some (.int .u16 a0_1) := (blk_cell (blk_below BKg8.out HQ.out) 1).trans rfl; have zg8_2 : w18.cell? ⟨g8, 2, none⟩ = some (.int .u16 a0_2) := (blk_cell (blk_below BKg8.out HQ.out) 2).trans rfl; have zg8_3 : w18.cell? ⟨g8, 3, none⟩ = some (.int .u32 a0_3) := (blk_cell (blk_below BKg8.out HQ.out) 3).trans rfl; have zg8_4 : w18.cell? ⟨g8, 4, none⟩ = some (.slice A8 l0_4.length c8) := (blk_cell (blk_below BKg8.out HQ.out) 4).trans rfl; have zg8_5 : w18.cell? ⟨g8, 5, none⟩ = some (.slice F8 us.length f8) := (blk_cell (blk_below BKg8.out HQ.out) 5).trans rfl; have zg8_6 : w18.cell? ⟨g8, 6, none⟩ = some (.slice C8 l0_6.length e8) := (blk_cell (blk_below BKg8.out HQ.out) 6).trans rfl) | (go_at_call 11; (with_reducible refine (rdata_Check.calls k3 a0_0 a0_1 a0_2 a0_3 A8 c8 l0_4 F8 f8 us C8 e8 l0_6 50 _ (Kd.C_below X84.out HQ.out) Y84.out (Kd.C_below X85.out HQ.out) Y85.out (Kd.C_below X86.out HQ.out) Y86.out K3.out).mono ?_); rintro e w19 ⟨rfl, hb⟩; have n1_ := Aside0.mk (below_step HQ.out hb); clear HQ hb zg8_0 zg8_1 zg8_2 zg8_3 zg8_4 zg8_5 zg8_6; have HQ := n1_; clear n1_))
      clear BKg6 BKg7 BKg8 X74 Y74 X75 Y75 X76 Y76 X84 Y84 X85 Y85 X86 Y86
      have n1_ := Aside0.mk (blk_below BKg2.out HQ.out); clear BKg2; have BKg2 := n1_; clear n1_
      have n1_ := Aside0.mk (below_step HB.out HQ.out); clear HB HQ; have HB := n1_; clear n1_
      have HQ := Aside0.mk (Below.refl w19.heap.size w19)
      have zg2_0 : w19.cell? ⟨g2, 0, none⟩ = some (.string a0_0) := (blk_cell BKg2.out 0).trans rfl
      have zg2_1 : w19.cell? ⟨g2, 1, none⟩ = some (.int .u16 a0_1) := (blk_cell BKg2.out 1).trans rfl
      have zg2_2 : w19.cell? ⟨g2, 2, none⟩ = some (.int .u16 a0_2) := (blk_cell BKg2.out 2).trans rfl
      have zg2_3 : w19.cell? ⟨g2, 3, none⟩ = some (.int .u32 a0_3) := (blk_cell BKg2.out 3).trans rfl
      have zg2_4 : w19.cell? ⟨g2, 4, none⟩ = some (.slice A0_4 l0_4.length c0_4) := (blk_cell BKg2.out 4).trans rfl
      have zg2_5 : w19.cell? ⟨g2, 5, none⟩ = some (.slice A0_5 l0_5.length c0_5) := (blk_cell BKg2.out 5).trans rfl
      have zg2_6 : w19.cell? ⟨g2, 6, none⟩ = some (.slice A0_6 l0_6.length c0_6) := (blk_cell BKg2.out 6).trans rfl
      go_upto_region 18 with (first | ((with_reducible refine gate_callee (f := 15) rfl ?_); refine goesL_ (some 65) rfl rfl Try.func15 (by kernel_rfl) rfl #[.agg #[.string a0_0, .int .u16 a0_1, .int .u16 a0_2, .int .u32 a0_3, .slice A0_4 l0_4.length c0_4, .slice A0_5 l0_5.length c0_5, .slice A0_6 l0_6.length c0_6]] rfl (by (try simp only [List.map_toArray, List.map_cons, List.map_nil]); first | done | rfl) ?_; (with_reducible refine (nunciolaw05_Copied.calls a0_0 a0_1 a0_2 a0_3 A0_4 c0_4 l0_4 A0_5 c0_5 l0_5 A0_6 c0_6 l0_6 a0_0 a0_1 a0_2 a0_3 l0_4 l0_5 l0_6 _ (Kd.C_below HR4.out (below_step HB.out HQ.out)) HC4.out (Kd.C_below HR5.out (below_step HB.out HQ.out)) HC5.out (Kd.C_below HR6.out (below_step HB.out HQ.out)) HC6.out HP.out).mono ?_); rintro e w20 ⟨v4, v5, v6, rfl, ho4, ho5, ho6, hb⟩; refine ⟨_, rfl, ?_⟩; obtain ⟨A9, c9, rfl⟩ := Kd.R_slice ho4; obtain ⟨B9, d9, rfl⟩ := Kd.R_slice ho5; obtain ⟨C9, e9, rfl⟩ := Kd.R_slice ho6; have HV4 := Aside0.mk ho4; have HV5 := Aside0.mk ho5; have HV6 := Aside0.mk ho6; have n1_ := Aside0.mk (below_step HQ.out hb); clear HQ hb ho4 ho5 ho6 zg2_0 zg2_1 zg2_2 zg2_3 zg2_4 zg2_5 zg2_6; have HQ := n1_; have HE := Aside0.mk (Below.refl w20.heap.size w20); clear n1_) | ((with_reducible refine gate_dst (N := 9) rfl ?_); refine box_event ?hg (N := 9) ?hd (cs := #[.string (⟨#[]⟩ : ByteArray), .int .u16 0, .int .u16 0, .int .u32 0, .slice none 0 0, .slice none 0 0, .slice none 0 0]) (t := 27) ?hr ?_; (case hd => rfl); (case hg => rfl); (case hr => first | (go_simp; done) | (go_simp; rfl)); intro g9 hg w21 hbox hb; have yg9_0 : w21.cell? ⟨g9, 0, none⟩ = some (.string (⟨#[]⟩ : ByteArray)) := (blk_cell hbox 0).trans rfl; have yg9_1 : w21.cell? ⟨g9, 1, none⟩ = some (.int .u16 0) := (blk_cell hbox 1).trans rfl; have yg9_2 : w21.cell? ⟨g9, 2, none⟩ = some (.int .u16 0) := (blk_cell hbox 2).trans rfl; have yg9_3 : w21.cell? ⟨g9, 3, none⟩ = some (.int .u32 0) := (blk_cell hbox 3).trans rfl; have yg9_4 : w21.cell? ⟨g9, 4, none⟩ = some (.slice none 0 0) := (blk_cell hbox 4).trans rfl; have yg9_5 : w21.cell? ⟨g9, 5, none⟩ = some (.slice none 0 0) := (blk_cell hbox 5).trans rfl; have yg9_6 : w21.cell? ⟨g9, 6, none⟩ = some (.slice none 0 0) := (blk_cell hbox 6).trans rfl; have fg9_0 := blk_frozen hbox 0; have fg9_1 := blk_frozen hbox 1; have fg9_2 := blk_frozen hbox 2; have fg9_3 := blk_frozen hbox 3; have fg9_4 := blk_frozen hbox 4; have fg9_5 := blk_frozen hbox 5; have fg9_6 := blk_frozen hbox 6; have BQ := Aside0.mk hbox; have GE := Aside0.mk (show w20.heap.size ≤ g9 by rw [hg]; exact HE.out.size); have n3_ := Aside0.mk (below_step HE.out hb); clear hbox hb hg HE; have HE := n3_; clear n3_))
      (try simp only [Act.put, List.setIfInBounds_toArray, List.set_cons_zero, List.set_cons_succ])
      have n1_ := Aside0.mk (show (((((((w21.setCell ⟨g9, 0, none⟩ (.string a0_0)).setCell ⟨g9, 1, none⟩ (.int .u16 a0_1)).setCell ⟨g9, 2, none⟩ (.int .u16 a0_2)).setCell ⟨g9, 3, none⟩ (.int .u32 a0_3)).setCell ⟨g9, 4, none⟩ (.slice A9 l0_4.length c9)).setCell ⟨g9, 5, none⟩ (.slice B9 l0_5.length d9)).setCell ⟨g9, 6, none⟩ (.slice C9 l0_6.length e9)).heap[g9]? = some (.cells #[.string a0_0, .int .u16 a0_1, .int .u16 a0_2, .int .u32 a0_3, .slice A9 l0_4.length c9, .slice B9 l0_5.length d9, .slice C9 l0_6.length e9] 27 (0, 0)) from (blk_put (blk_put (blk_put (blk_put (blk_put (blk_put (blk_put BQ.out 0 _ rfl) 1 _ rfl) 2 _ rfl) 3 _ rfl) 4 _ rfl) 5 _ rfl) 6 _ rfl))
      have n2_ := Aside0.mk (show Below w20.heap.size w20 (((((((w21.setCell ⟨g9, 0, none⟩ (.string a0_0)).setCell ⟨g9, 1, none⟩ (.int .u16 a0_1)).setCell ⟨g9, 2, none⟩ (.int .u16 a0_2)).setCell ⟨g9, 3, none⟩ (.int .u32 a0_3)).setCell ⟨g9, 4, none⟩ (.slice A9 l0_4.length c9)).setCell ⟨g9, 5, none⟩ (.slice B9 l0_5.length d9)).setCell ⟨g9, 6, none⟩ (.slice C9 l0_6.length e9)) from (below_set (below_set (below_set (below_set (below_set (below_set (below_set HE.out GE.out) GE.out) GE.out) GE.out) GE.out) GE.out) GE.out))
      clear BQ HE yg9_0 yg9_1 yg9_2 yg9_3 yg9_4 yg9_5 yg9_6 fg9_0 fg9_1 fg9_2 fg9_3 fg9_4 fg9_5 fg9_6
      generalize (((((((w21.setCell ⟨g9, 0, none⟩ (.string a0_0)).setCell ⟨g9, 1, none⟩ (.int .u16 a0_1)).setCell ⟨g9, 2, none⟩ (.int .u16 a0_2)).setCell ⟨g9, 3, none⟩ (.int .u32 a0_3)).setCell ⟨g9, 4, none⟩ (.slice A9 l0_4.length c9)).setCell ⟨g9, 5, none⟩ (.slice B9 l0_5.length d9)).setCell ⟨g9, 6, none⟩ (.slice C9 l0_6.length e9)) = W20 at n1_ n2_ ⊢
      have BKg9 := n1_
      have HE := n2_
      clear n1_ n2_
      have n1_ := Aside0.mk (Kd.R_below HV4.out HE.out); clear HV4; have HV4 := n1_; clear n1_
      have n1_ := Aside0.mk (Kd.R_below HV5.out HE.out); clear HV5; have HV5 := n1_; clear n1_
      have n1_ := Aside0.mk (Kd.R_below HV6.out HE.out); clear HV6; have HV6 := n1_; clear n1_
      have GF := Aside0.mk (show w19.heap.size ≤ g9 from Nat.le_trans HQ.out.size GE.out)
      have n1_ := Aside0.mk (below_step HQ.out HE.out); clear HQ HE GE; have HQ := n1_; clear n1_
      have GE := GF; clear GF
      have zg9_0 : W20.cell? ⟨g9, 0, none⟩ = some (.string a0_0) := (blk_cell BKg9.out 0).trans rfl
      have zg9_1 : W20.cell? ⟨g9, 1, none⟩ = some (.int .u16 a0_1) := (blk_cell BKg9.out 1).trans rfl
      have zg9_2 : W20.cell? ⟨g9, 2, none⟩ = some (.int .u16 a0_2) := (blk_cell BKg9.out 2).trans rfl
      have zg9_3 : W20.cell? ⟨g9, 3, none⟩ = some (.int .u32 a0_3) := (blk_cell BKg9.out 3).trans rfl
      have zg9_4 : W20.cell? ⟨g9, 4, none⟩ = some (.slice A9 l0_4.length c9) := (blk_cell BKg9.out 4).trans rfl
      have zg9_5 : W20.cell? ⟨g9, 5, none⟩ = some (.slice B9 l0_5.length d9) := (blk_cell BKg9.out 5).trans rfl
      have zg9_6 : W20.cell? ⟨g9, 6, none⟩ = some (.slice C9 l0_6.length e9) := (blk_cell BKg9.out 6).trans rfl
      have fg9_0 := blk_frozen BKg9.out 0
      have fg9_1 := blk_frozen BKg9.out 1
      have fg9_2 := blk_frozen BKg9.out 2
      have fg9_3 := blk_frozen BKg9.out 3
      have fg9_4 := blk_frozen BKg9.out 4
      have fg9_5 := blk_frozen BKg9.out 5
      have fg9_6 := blk_frozen BKg9.out 6
      have n1_ := Aside0.mk (blk_below BKg2.out HQ.out)
      have zg2_0 : W20.cell? ⟨g2, 0, none⟩ = some (.string a0_0) := (blk_cell n1_.out 0).trans rfl
      have zg2_1 : W20.cell? ⟨g2, 1, none⟩ = some (.int .u16 a0_1) := (blk_cell n1_.out 1).trans rfl
      have zg2_2 : W20.cell? ⟨g2, 2, none⟩ = some (.int .u16 a0_2) := (blk_cell n1_.out 2).trans rfl
      have zg2_3 : W20.cell? ⟨g2, 3, none⟩ = some (.int .u32 a0_3) := (blk_cell n1_.out 3).trans rfl
      have zg2_4 : W20.cell? ⟨g2, 4, none⟩ = some (.slice A0_4 l0_4.length c0_4) := (blk_cell n1_.out 4).trans rfl
      have zg2_5 : W20.cell? ⟨g2, 5, none⟩ = some (.slice A0_5 l0_5.length c0_5) := (blk_cell n1_.out 5).trans rfl
      have zg2_6 : W20.cell? ⟨g2, 6, none⟩ = some (.slice A0_6 l0_6.length c0_6) := (blk_cell n1_.out 6).trans rfl
      clear n1_
      rcases HL.out with hl | ⟨hl, h6 | ⟨h6, ⟨k4, hk4⟩⟩⟩
      · have q1 : decide (0 < l0_5.length) = false := decide_eq_false (by omega)
        have q2 : decide ((l0_5.length : Int) > 0) = false := decide_eq_false (by omega)
        have q3 : decide (0 < (l0_5.length : Int)) = false := decide_eq_false (by omega)
        clear hl
        go_wp2
        go_ret
        exact ⟨rfl, below_step HB.out HQ.out⟩
      · have q1 : decide (0 < l0_5.length) = true := decide_eq_true (by omega)
        have q2 : decide ((l0_5.length : Int) > 0) = true := decide_eq_true (by omega)
        have q3 : decide (0 < (l0_5.length : Int)) = true := decide_eq_true (by omega)
        have q6 : (a0_1 != 6) = false := bne_eq_false_iff_eq.mpr h6
        clear hl h6
        go_wp2
        go_ret
        exact ⟨rfl, below_step HB.out HQ.out⟩
      · have q1 : decide (0 < l0_5.length) = true := decide_eq_true (by omega)
        have q2 : decide ((l0_5.length : Int) > 0) = true := decide_eq_true (by omega)
        have q3 : decide (0 < (l0_5.length : Int)) = true := decide_eq_true (by omega)
        have q6 : (a0_1 != 6) = true := bne_iff_ne.mpr h6
        have HN := Aside0.mk hl
        rw [M2d.out] at hk4
        have K4 := Aside0.mk hk4
        clear h6 hk4
        obtain ⟨go, co, eo, gb, gl, cl, HG⟩ := Kd.R_form HV5.out (by omega)
        (first | cases eo | (injection eo with ea_ en_ ec_; (first | subst ea_ | (injection ea_ with ea_; subst ea_)); subst ec_; clear en_))
        obtain ⟨hx0, hf0⟩ := Kd.R_celln 0 HV5.out (0 : Int) (by omega) (by omega)
        (try rw [show ((0 : Int)).toNat = 0 from rfl] at hx0); (try simp only [Nat.reduceMul, Nat.zero_mul, Nat.zero_add, Nat.reduceAdd] at hx0)
        (try rw [show ((0 : Int)).toNat = 0 from rfl] at hf0); (try simp only [Nat.reduceMul, Nat.zero_mul, Nat.zero_add, Nat.reduceAdd] at hf0)
        have HPG := Aside0.mk (Kd.R_putg HV5.out (0 : Int) M2)
        have p0 : (0 : Int) < (l0_5.length : Int) := by omega
        have GO := Aside0.mk gb; clear gb gl cl HG
        go_upto_region 20 with fail
        (try simp only [Act.put, List.setIfInBounds_toArray, List.set_cons_zero, List.set_cons_succ])
        have n1_ := Aside0.mk (show (W20.setCell ⟨go, 0, none⟩ (.int .u32 M2)).heap[g9]? = some (.cells #[.string a0_0, .int .u16 a0_1, .int .u16 a0_2, .int .u32 a0_3, .slice A9 l0_4.length c9, .slice (some ⟨go, 0, none⟩) l0_5.length d9, .slice C9 l0_6.length e9] 27 (0, 0)) from blk_grown BKg9.out HPG.out.2 (Kd.R_ne HV5.out BKg9.out (by decide)))
        have n2_ := Aside0.mk (show Kd.R Kd.string 9 (W20.setCell ⟨go, 0, none⟩ (.int .u32 M2)) _ _ _ _ from Kd.R_over' (v := (.slice (some ⟨go, 0, none⟩) l0_5.length d9 : Value)) HV4.out (Kd.R_typed HV5.out) (by decide) HPG.out.2)
        have n3_ := Aside0.mk (show Kd.R Kd.string 9 (W20.setCell ⟨go, 0, none⟩ (.int .u32 M2)) _ _ _ _ from Kd.R_over' (v := (.slice (some ⟨go, 0, none⟩) l0_5.length d9 : Value)) HV6.out (Kd.R_typed HV5.out) (by decide) HPG.out.2)
        have n4_ := Aside0.mk (show Kd.R (Kd.int .u32) 23 (W20.setCell ⟨go, 0, none⟩ (.int .u32 M2)) _ _ (.slice (some ⟨go, 0, none⟩) l0_5.length d9) (l0_5.set (0 : Int).toNat M2) from HPG.out.1)
        have n5_ := Aside0.mk (show Below w19.heap.size w19 (W20.setCell ⟨go, 0, none⟩ (.int .u32 M2)) from below_set HQ.out (Kd.R_base HV5.out go rfl))
        clear GE HPG HV4 HV5 HV6 HQ hx0 hf0 BKg9 GO zg9_0 zg9_1 zg9_2 zg9_3 zg9_4 zg9_5 zg9_6 fg9_0 fg9_1 fg9_2 fg9_3 fg9_4 fg9_5 fg9_6 zg2_0 zg2_1 zg2_2 zg2_3 zg2_4 zg2_5 zg2_6
        generalize (W20.setCell ⟨go, 0, none⟩ (.int .u32 M2)) = W21 at n1_ n2_ n3_ n4_ n5_ ⊢
        have zg9_0 : W21.cell? ⟨g9, 0, none⟩ = some (.string a0_0) := (blk_cell n1_.out 0).trans rfl
        have zg9_1 : W21.cell? ⟨g9, 1, none⟩ = some (.int .u16 a0_1) := (blk_cell n1_.out 1).trans rfl
        have zg9_2 : W21.cell? ⟨g9, 2, none⟩ = some (.int .u16 a0_2) := (blk_cell n1_.out 2).trans rfl
        have zg9_3 : W21.cell? ⟨g9, 3, none⟩ = some (.int .u32 a0_3) := (blk_cell n1_.out 3).trans rfl
        have zg9_4 : W21.cell? ⟨g9, 4, none⟩ = some (.slice A9 l0_4.length c9) := (blk_cell n1_.out 4).trans rfl
        have zg9_5 : W21.cell? ⟨g9, 5, none⟩ = some (.slice (some ⟨go, 0, none⟩) l0_5.length d9) := (blk_cell n1_.out 5).trans rfl
        have zg9_6 : W21.cell? ⟨g9, 6, none⟩ = some (.slice C9 l0_6.length e9) := (blk_cell n1_.out 6).trans rfl
        go_wp2_with (first | ((with_reducible refine gate_callee (f := 11) rfl ?_); refine goesL_ (some 81) rfl rfl Try.func11 (by kernel_rfl) rfl #[.agg #[.string a0_0, .int .u16 a0_1, .int .u16 a0_2, .int .u32 a0_3, .slice A9 l0_4.length c9, .slice (some ⟨go, 0, none⟩) l0_5.length d9, .slice C9 l0_6.length e9]] rfl (by (try simp only [List.map_toArray, List.map_cons, List.map_nil]); first | done | rfl) ?_; (refine (lim_last k4 a0_0 a0_1 a0_2 a0_3 A9 c9 l0_4 (some ⟨go, 0, none⟩) d9 l0_5 M2 C9 e9 l0_6 50 _ (Kd.R_reads' n2_.out).2.2 (Kd.R_reads' n2_.out).2.1 (Kd.R_reads' n4_.out).2.2 (Kd.R_reads' n4_.out).2.1 (Kd.R_reads' n3_.out).2.2 (Kd.R_reads' n3_.out).2.1 K4.out).mono ?_); rintro e w22 ⟨rfl, hb⟩; refine ⟨_, rfl, ?_⟩; have n6_ := Aside0.mk (below_step n5_.out hb); clear hb zg9_0 zg9_1 zg9_2 zg9_3 zg9_4 zg9_5 zg9_6))
        go_ret
        exact ⟨rfl, below_step HB.out n6_.out⟩

/-- THE ONE PURE STATEMENT of nunciolaw05_DataLimits: yours. -/
def nunciolaw05_DataLimits.Pure : Prop := ∀ (a0_0 : ByteArray) (a0_1 : Int) (a0_2 : Int) (a0_3 : Int) (l0_4 : List ByteArray) (l0_5 : List Int) (l0_6 : List ByteArray) (a1 : Int), (a0_0.size ≤ 140737488351232) → ((Lit.int .u16 a0_1).wf = true) → ((Lit.int .u16 a0_2).wf = true) → ((Lit.int .u32 a0_3).wf = true) → (l0_4.length ≤ 9223372036854775807 ∧ l0_4.length * 16 ≤ 140737488351232 ∧ ∀ x_ ∈ l0_4, x_.size ≤ 140737488351232) → (l0_5.length ≤ 9223372036854775807 ∧ l0_5.length * 4 ≤ 140737488351232 ∧ ∀ x_ ∈ l0_5, (Lit.int .u32 x_).wf = true) → (l0_6.length ≤ 9223372036854775807 ∧ l0_6.length * 16 ≤ 140737488351232 ∧ ∀ x_ ∈ l0_6, x_.size ≤ 140737488351232) → ((Lit.int .u32 a1).wf = true) → ∃ k, nunciolaw05_DataLimits.f k a0_0 a0_1 a0_2 a0_3 l0_4 l0_5 l0_6 a1 = some true
theorem nunciolaw05_DataLimits.walk (P : nunciolaw05_DataLimits.Pure) (a0_0 : ByteArray) (a0_1 : Int) (a0_2 : Int) (a0_3 : Int) (A0_4 : Option Addr) (c0_4 : Nat) (l0_4 : List ByteArray) (A0_5 : Option Addr) (c0_5 : Nat) (l0_5 : List Int) (A0_6 : Option Addr) (c0_6 : Nat) (l0_6 : List ByteArray) (a1 : Int) (w : World) (hr0_4 : Kd.C Kd.string w A0_4 l0_4.length l0_4) (hc0_4 : l0_4.length ≤ c0_4) (hr0_5 : Kd.C (Kd.int .u32) w A0_5 l0_5.length l0_5) (hc0_5 : l0_5.length ≤ c0_5) (hr0_6 : Kd.C Kd.string w A0_6 l0_6.length l0_6) (hc0_6 : l0_6.length ≤ c0_6) (w0_0 : a0_0.size ≤ 140737488351232) (w0_1 : (Lit.int .u16 a0_1).wf = true) (w0_2 : (Lit.int .u16 a0_2).wf = true) (w0_3 : (Lit.int .u32 a0_3).wf = true) (w0_4 : l0_4.length ≤ 9223372036854775807 ∧ l0_4.length * 16 ≤ 140737488351232 ∧ ∀ x_ ∈ l0_4, x_.size ≤ 140737488351232) (w0_5 : l0_5.length ≤ 9223372036854775807 ∧ l0_5.length * 4 ≤ 140737488351232 ∧ ∀ x_ ∈ l0_5, (Lit.int .u32 x_).wf = true) (w0_6 : l0_6.length ≤ 9223372036854775807 ∧ l0_6.length * 16 ≤ 140737488351232 ∧ ∀ x_ ∈ l0_6, x_.size ≤ 140737488351232) (w1 : (Lit.int .u32 a1).wf = true) :
    Calls Try.prog 6 #[.agg #[.string a0_0, .int .u16 a0_1, .int .u16 a0_2, .int .u32 a0_3, .slice A0_4 l0_4.length c0_4, .slice A0_5 l0_5.length c0_5, .slice A0_6 l0_6.length c0_6], .int .u32 a1] w fun e w' => e = .returned (.bool true) ∧ Below w.heap.size w w' := by
  obtain ⟨k, h⟩ := P a0_0 a0_1 a0_2 a0_3 l0_4 l0_5 l0_6 a1 w0_0 w0_1 w0_2 w0_3 w0_4 w0_5 w0_6 w1
  refine (nunciolaw05_DataLimits.calls k a0_0 a0_1 a0_2 a0_3 _ _ l0_4 _ _ l0_5 _ _ l0_6 a1 true w hr0_4 hc0_4 hr0_5 hc0_5 hr0_6 hc0_6 h rfl).mono ?_
  rintro e w' ⟨rfl, hd⟩
  exact ⟨rfl, hd⟩

end Go.Proofs.Ytebnbjnkameicaa.Mine
