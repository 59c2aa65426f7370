/- Any settings, told one list behind the other, come to just the document's values, or its code: for any two lists. -/
import Derived.Test.YtkcgenilgboimaaMinex9
import Derived.Test.YtkcgenilgboimaaMinex6
import Derived.Test.YtkcgenilgboimaaMinex8
import Derived.Test.YtkcgenilgboimaaMinex7
import Derived.Test.YtkcgenilgboimaaLSet
namespace Go.Proofs.Ytkcgenilgboimaa.Pure
open Go.RowKit Go.Proofs.Ytkcgenilgboimaa.Mine Go.Proofs.YtkcgenilgboimaaW.PrintWords Go.Proofs.YtkcgenilgboimaaW.PrintLast Go.Proofs.YtkcgenilgboimaaW.PrintMore
set_option linter.unusedVariables false

theorem wrong_f (c : Bool) (x : S42) (h0 : 0 ≤ x.f1) (k : Nat) : nuncioref16_wrong.f (k + 2) c x.f0 x.f1 = some (oc c x) := by
  unfold nuncioref16_wrong.f oc
  simp only [nuncioref16_wrong.j0, nuncioref16_wrong.j1]
  by_cases h2 : x.f0 = 2
  · rw [if_pos h2, if_pos h2]
    simp only [if_neg (show ¬ x.f0 = 4 by omega), if_neg (show ¬ x.f0 = 5 by omega)]
    by_cases h3 : x.f1 > 1
    · simp [h3]
    · rw [if_neg h3, if_neg h3]
      by_cases hc : c = true
      · rw [if_pos hc, if_pos hc]
        by_cases h4 : x.f1 = 1
        · simp [h4]
        · simp [h4, show ¬ 0 < x.f1 by omega]
      · rw [if_neg hc, if_neg hc]; simp
  · rw [if_neg h2, if_neg h2]
    by_cases h4 : x.f0 = 4
    · simp only [h4]
      by_cases h5 : x.f1 ≥ 2147483648
      · simp [h5, show x.f1 > 2147483647 by omega]
      · simp [h5, show ¬ x.f1 > 2147483647 by omega]
    · by_cases h5 : x.f0 = 5
      · by_cases h6 : x.f1 < 16384
        · simp [h5, h6]
        · by_cases h7 : x.f1 ≥ 16777216
          · simp [h5, h6, h7, show x.f1 > 16777215 by omega]
          · simp [h5, h6, h7, show ¬ x.f1 > 16777215 by omega]
      · simp [h4, h5]
theorem chk_f (c : Bool) (k : Nat) : ∀ l : List S42, (∀ x ∈ l, 0 ≤ x.f1) → ref16Chk (k + 2) c l = some (lc c l)
  | [], _ => rfl
  | x :: l, h => by
    rw [ref16Chk, wrong_f c x (h x List.mem_cons_self) k, Option.bind_some, lc]
    by_cases h0 : oc c x = 0
    · rw [if_pos h0, if_pos h0]
      exact chk_f c k l (fun y hy => h y (List.mem_cons_of_mem _ hy))
    · rw [if_neg h0, if_neg h0]
/-- The document's values. -/
def rl (v : Vs) : List Int := [0, v.1, if v.2.2.2.2.2 = true then 1 else 0, v.2.1, v.2.2.1, v.2.2.2.1, v.2.2.2.2.1]
theorem set_one {c : Bool} {x : S42} (h0 : 0 ≤ x.f1) (v : Vs) (h : oc c x = 0) : (if 1 ≤ x.f0 ∧ x.f0 ≤ 6 then (rl v).set x.f0.toNat x.f1 else rl v) = rl (ov x v) := by
  unfold oc at h
  unfold ov
  by_cases h1 : x.f0 = 1
  · rw [if_pos (by omega), if_pos h1, h1]; rfl
  rw [if_neg h1]
  by_cases h2 : x.f0 = 2
  · rw [if_pos h2] at h
    have hx : x.f1 = 0 ∨ x.f1 = 1 := by
      by_cases h3 : x.f1 > 1
      · rw [if_pos h3] at h; omega
      · omega
    rw [if_pos (by omega), if_pos h2, h2]
    rcases hx with hx | hx <;> rw [hx] <;> rfl
  rw [if_neg h2]
  by_cases h3 : x.f0 = 3
  · rw [if_pos (by omega), if_pos h3, h3]; rfl
  rw [if_neg h3]
  by_cases h4 : x.f0 = 4
  · rw [if_pos (by omega), if_pos h4, h4]; rfl
  rw [if_neg h4]
  by_cases h5 : x.f0 = 5
  · rw [if_pos (by omega), if_pos h5, h5]; rfl
  rw [if_neg h5]
  by_cases h6 : x.f0 = 6
  · rw [if_pos (by omega), if_pos h6, h6]; rfl
  · rw [if_neg h6, if_neg (by omega)]
theorem set_all {c : Bool} : ∀ {l : List S42} (v : Vs), (∀ x ∈ l, 0 ≤ x.f1) → lc c l = 0 → ref16Set (rl v) l = rl (lv l v)
  | [], _, _, _ => rfl
  | x :: l, v, hp, h0 => by
    have h1 : oc c x = 0 := by
      by_cases h2 : oc c x = 0
      · exact h2
      · simp only [lc, if_neg h2] at h0; exact absurd h0 h2
    simp only [lc, if_pos h1] at h0
    rw [ref16Set, set_one (hp x List.mem_cons_self) v h1]
    exact set_all (ov x v) (fun y hy => hp y (List.mem_cons_of_mem _ hy)) h0
theorem ref_apply (c : Bool) (l : List S42) (v : Vs) (hp : ∀ x ∈ l, 0 ≤ x.f1) (k : Nat) :
    nuncioref16_Apply.f (k + 2) 0 v.1 (if v.2.2.2.2.2 = true then 1 else 0) v.2.1 v.2.2.1 v.2.2.2.1 v.2.2.2.2.1 c l = some (ref16Tup (if lc c l = 0 then rl (lv l v) else rl v) (lc c l)) := by
  unfold nuncioref16_Apply.f
  rw [chk_f c k l hp, Option.bind_some]
  by_cases h0 : lc c l = 0
  · rw [if_pos h0, if_pos h0, show [0, v.1, (if v.2.2.2.2.2 = true then 1 else 0), v.2.1, v.2.2.1, v.2.2.2.1, v.2.2.2.2.1] = rl v from rfl, set_all v hp h0]
  · rw [if_neg h0, if_neg h0]; rfl
theorem same_rl (v : Vs) (a0 a1 a2 a3 a4 a5 a6 : Int) (h : [a0, a1, a2, a3, a4, a5, a6] = rl v) : nunciolaw16_same.f v.1 v.2.1 v.2.2.1 v.2.2.2.1 v.2.2.2.2.1 v.2.2.2.2.2 a0 a1 a2 a3 a4 a5 a6 = some true := by
  unfold rl at h
  simp only [List.cons.injEq, and_true] at h
  obtain ⟨rfl, rfl, rfl, rfl, rfl, rfl, rfl⟩ := h
  unfold nunciolaw16_same.f
  simp
theorem same_rl' (v : Vs) : nunciolaw16_same.f v.1 v.2.1 v.2.2.1 v.2.2.2.1 v.2.2.2.2.1 v.2.2.2.2.2 ((rl v).getD 0 0) ((rl v).getD 1 0) ((rl v).getD 2 0) ((rl v).getD 3 0) ((rl v).getD 4 0) ((rl v).getD 5 0) ((rl v).getD 6 0) = some true := same_rl v _ _ _ _ _ _ _ rfl
theorem oc_codes' (c : Bool) (x : S42) : 0 ≤ oc c x ∧ oc c x ≤ 3 := by
  unfold oc
  repeat' split
  all_goals omega
theorem lc_codes' (c : Bool) : ∀ l, 0 ≤ lc c l ∧ lc c l ≤ 3
  | [] => by simp [lc]
  | x :: l => by
    have h1 := oc_codes' c x
    have h2 := lc_codes' c l
    simp only [lc]
    split <;> omega
theorem awake16' {k : Nat} (hk : 40 ≤ k) : nunciolaw16_awake.f k = some true := by
  have h : nunciolaw16_awake.f 40 = some true := by decide +kernel
  exact leO_ge (nunciolaw16_awake.mono) h hk
/-- What both sides have come to, told once more. -/
theorem apply_j1 (c : Bool) (l : List S42) (v : Vs) (hp : ∀ x ∈ l, 0 ≤ x.f1) (hl : l.length ≤ 2000) (k : Nat) (hk : 3000 < k) :
    nunciolaw16_SettingsApply.j1 k c l false v.1 v.2.1 v.2.2.1 v.2.2.2.1 v.2.2.2.2.1 v.2.2.2.2.2 0 v.1 (if v.2.2.2.2.2 = true then 1 else 0) v.2.1 v.2.2.1 v.2.2.2.1 v.2.2.2.2.1 = some true := by
  obtain ⟨k, rfl⟩ : ∃ m, k = m + 3 := ⟨k - 3, by omega⟩
  simp only [nunciolaw16_SettingsApply.j1]
  rw [if_neg (by simp), apply_f (by omega) (by omega), Option.bind_some, ref_apply c l v hp k, Option.bind_some]
  have hc := lc_codes' c l
  by_cases h0 : lc c l = 0
  · unfold ap
    rw [if_pos h0, if_pos h0, h0]
    simp only [fl, ref16Tup]
    rw [same_rl' (lv l v), Option.bind_some, if_pos rfl, w64 (by omega) (by omega)]
    rfl
  · unfold ap
    rw [if_neg h0, if_neg h0]
    simp only [fl, ref16Tup]
    rw [same_rl' v, Option.bind_some, if_pos rfl, w64 (by omega) (by omega), beq_self_eq_true]
theorem SettingsApply : nunciolaw16_SettingsApply.Pure := by
  intro c a b ha hb
  refine ⟨4001, ?_⟩
  have hpa : ∀ x ∈ a, 0 ≤ x.f1 := fun x hx => by
    have := ha.2.2 x hx
    unfold k42_wf at this
    have := b_u32 this.2
    omega
  have hpb : ∀ x ∈ b, 0 ≤ x.f1 := fun x hx => by
    have := hb.2.2 x hx
    unfold k42_wf at this
    have := b_u32 this.2
    omega
  have T : ∀ k, nunciolaw16_SettingsApply.j0 (k + 1) c a b true = some true := by
    intro k
    simp only [nunciolaw16_SettingsApply.j0]; rw [if_pos trivial]
  unfold nunciolaw16_SettingsApply.f
  rw [awake16' (by omega), Option.bind_some, if_pos rfl]
  by_cases h1 : (a.length : Int) > 2000
  · rw [if_pos h1]; exact T _
  rw [if_neg h1]
  by_cases h2 : (b.length : Int) > 2000
  · rw [decide_eq_true h2]; exact T _
  rw [decide_eq_false h2]
  simp only [nunciolaw16_SettingsApply.j0]
  rw [if_neg (by simp), defaults_f, Option.bind_some, Option.bind_some, if_pos (by simp; omega), List.nil_append]
  rw [apply_f (v := dv) (by omega) (by omega), Option.bind_some]
  rw [show nuncioref16_Defaults.f = some (0, dv.1, (if dv.2.2.2.2.2 = true then 1 else 0), dv.2.1, dv.2.2.1, dv.2.2.2.1, dv.2.2.2.2.1) from rfl, Option.bind_some]
  simp only
  rw [ref_apply c a dv hpa 3998, Option.bind_some, Option.bind_some, Option.bind_some]
  simp only
  rw [same_rl dv _ _ _ _ _ _ _ rfl, Option.bind_some, if_pos rfl]
  have hc := lc_codes' c a
  by_cases h0 : lc c a = 0
  · unfold ap
    rw [if_pos h0, if_pos h0, h0]
    simp only [fl, ref16Tup]
    rw [same_rl' (lv a dv), Option.bind_some, if_pos rfl, w64 (by omega) (by omega), bne_self_eq_false]
    exact apply_j1 c b (lv a dv) hpb (by omega) 4000 (by omega)
  · unfold ap
    rw [if_neg h0, if_neg h0]
    simp only [fl, ref16Tup]
    rw [same_rl' dv, Option.bind_some, if_pos rfl, w64 (by omega) (by omega), bne_self_eq_false]
    exact apply_j1 c b dv hpb (by omega) 4000 (by omega)
end Go.Proofs.Ytkcgenilgboimaa.Pure
