import Derived.Test.YtkcgenilgboimaaMinex11
import Derived.Test.YtkcgenilgboimaaMinex8
import Derived.Test.YtkcgenilgboimaaMinex9
import Derived.Test.YtkcgenilgboimaaMinex10
import Derived.Test.YtkcgenilgboimaaMinex6
import Derived.Test.YtkcgenilgboimaaLSet
namespace Go.Proofs.Ytkcgenilgboimaa.Pure
open Go.RowKit Go.Proofs.Ytkcgenilgboimaa.Mine Go.Proofs.YtkcgenilgboimaaW.PrintWords Go.Proofs.YtkcgenilgboimaaW.PrintLast Go.Proofs.YtkcgenilgboimaaW.PrintMore
set_option linter.unusedSimpArgs false
set_option linter.unusedVariables false

/-- One field: the last that is told, or what it was. -/
def lastOf {α : Type} (n : Int) (h : Int → α) : List S42 → α → α
  | [], d => d
  | x :: l, d => lastOf n h l (if x.f0 = n then h x.f1 else d)
theorem lastOf_two {α : Type} (n : Int) (h : Int → α) : ∀ l, (∀ d d', lastOf n h l d = lastOf n h l d') ∨ (∀ d, lastOf n h l d = d)
  | [] => .inr (fun _ => rfl)
  | x :: l => by
    by_cases e : x.f0 = n
    · left; intro d d'; simp only [lastOf, if_pos e]
    · rcases lastOf_two n h l with g | g
      · left; intro d d'; simp only [lastOf, if_neg e]; exact g d d'
      · right; intro d; simp only [lastOf, if_neg e]; exact g d
theorem lastOf_again {α : Type} (n : Int) (h : Int → α) (l : List S42) (d : α) : lastOf n h l (lastOf n h l d) = lastOf n h l d := by
  rcases lastOf_two n h l with g | g
  · exact g _ _
  · exact g _
theorem ov_fields (x : S42) (v : Vs) : ov x v = (if x.f0 = 1 then x.f1 else v.1, if x.f0 = 3 then x.f1 else v.2.1, if x.f0 = 4 then x.f1 else v.2.2.1, if x.f0 = 5 then x.f1 else v.2.2.2.1, if x.f0 = 6 then x.f1 else v.2.2.2.2.1, if x.f0 = 2 then (x.f1 == 1) else v.2.2.2.2.2) := by
  unfold ov
  by_cases h1 : x.f0 = 1
  · simp [h1]
  by_cases h2 : x.f0 = 2
  · simp [h2]
  by_cases h3 : x.f0 = 3
  · simp [h3]
  by_cases h4 : x.f0 = 4
  · simp [h4]
  by_cases h5 : x.f0 = 5
  · simp [h5]
  by_cases h6 : x.f0 = 6
  · simp [h6]
  simp [h1, h2, h3, h4, h5, h6]
theorem lv_fields : ∀ (l : List S42) (v : Vs), lv l v = (lastOf 1 (fun z => z) l v.1, lastOf 3 (fun z => z) l v.2.1, lastOf 4 (fun z => z) l v.2.2.1, lastOf 5 (fun z => z) l v.2.2.2.1, lastOf 6 (fun z => z) l v.2.2.2.2.1, lastOf 2 (fun z => z == 1) l v.2.2.2.2.2)
  | [], _ => rfl
  | x :: l, v => by
    show lv l (ov x v) = _
    rw [lv_fields l (ov x v), ov_fields]
    rfl
theorem lv_again (l : List S42) (v : Vs) : lv l (lv l v) = lv l v := by
  rw [lv_fields l (lv l v)]
  conv => rhs; rw [lv_fields l v]
  rw [lv_fields l v]
  simp only [lastOf_again]
theorem awake16o {k : Nat} (hk : 100 ≤ k) : nunciolaw16_awake.f k = some true := by
  have h : nunciolaw16_awake.f 100 = some true := by decide +kernel
  exact leO_ge (nunciolaw16_awake.mono) h hk
theorem SettingsOrder : nunciolaw16_SettingsOrder.Pure := by
  intro c a b _ _
  obtain ⟨K, hK⟩ : ∃ K, K = 10000 := ⟨_, rfl⟩
  refine ⟨K + 1, ?_⟩
  have T0 : nunciolaw16_SettingsOrder_p0.j0 (K + 1) c a b true = some true := by simp only [nunciolaw16_SettingsOrder_p0.j0]; rw [if_pos trivial]
  unfold nunciolaw16_SettingsOrder.f nunciolaw16_SettingsOrder_p0.f nunciolaw16_SettingsOrder_p1.f nunciolaw16_SettingsOrder_p2.f
  rw [awake16o (by omega)]
  simp only [Option.bind_some, if_true]
  by_cases h1 : (a.length : Int) > 2000
  · rw [if_pos h1, T0]; rfl
  rw [if_neg h1, if_neg h1, if_neg h1]
  by_cases h2 : (b.length : Int) > 2000
  · rw [decide_eq_true h2, T0]; rfl
  rw [decide_eq_false h2]
  have ea := apply_f (c := c) (l := a) (k := K) (by omega) (by omega) dv
  have eab := apply_f (c := c) (l := a ++ b) (k := K) (by rw [List.length_append]; omega) (by rw [List.length_append]; omega) dv
  have hl : ([] : List S42).length + a.length < 17592186044416 := by simp; omega
  have hl2 : a.length + b.length < 17592186044416 := by omega
  simp only [nunciolaw16_SettingsOrder_p0.j0, nunciolaw16_SettingsOrder_p1.j0, nunciolaw16_SettingsOrder_p2.j0, defaults_f, Option.bind_some, ea, hl, hl2, if_true, List.nil_append, eab]
  have eb := fun v => apply_f (c := c) (l := b) (k := K) (by omega) (by omega) v
  by_cases ha : lc c a = 0
  · have e1 : ap c a dv dv = fl (lv a dv) 0 := by simp only [ap, if_pos ha]
    have e2 : ∀ v, lc c b ≠ 0 → ap c b v v = fl v (lc c b) := fun v hb => by simp only [ap, if_neg hb]
    have e3 : ∀ v, lc c b = 0 → ap c b v v = fl (lv b v) 0 := fun v hb => by simp only [ap, if_pos hb]
    have e4 : lc c b = 0 → ap c (a ++ b) dv dv = fl (lv b (lv a dv)) 0 := fun hb => by simp only [ap, lc_append, if_pos ha, if_pos hb, lv_append]
    have e5 : lc c b ≠ 0 → ap c (a ++ b) dv dv = fl dv (lc c b) := fun hb => by simp only [ap, lc_append, if_pos ha, if_neg hb]
    by_cases hb : lc c b = 0
    · have eb1 := eb (lv a dv)
      have eb2 := eb (lv b (lv a dv))
      rw [e3 _ hb] at eb1 eb2
      rw [lv_again] at eb2
      simp only [fl] at eb1 eb2
      simp only [e1, e4 hb, fl, eb1, eb2, Option.bind_some, if_true, hb, Bool.false_eq_true, if_false, beq_self_eq_true, Bool.and_self]
      rfl
    · have eb1 := eb (lv a dv)
      rw [e2 _ hb] at eb1
      simp only [fl] at eb1
      simp only [e1, e5 hb, fl, eb1, Option.bind_some, if_true, hb, Bool.false_eq_true, if_false, beq_self_eq_true, Bool.and_self]
      rfl
  · have e1 : ap c a dv dv = fl dv (lc c a) := by simp only [ap, if_neg ha]
    have e4 : ap c (a ++ b) dv dv = fl dv (lc c a) := by simp only [ap, lc_append, if_neg ha]
    obtain ⟨x, ex⟩ : ∃ x, settings_Apply.f K dv.1 dv.2.1 dv.2.2.1 dv.2.2.2.1 dv.2.2.2.2.1 dv.2.2.2.2.2 c b = some x := ⟨_, eb dv⟩
    simp only [e1, e4, fl, ex, Option.bind_some, ha, Bool.false_eq_true, if_true, if_false, beq_self_eq_true, Bool.and_self]
    rfl
end Go.Proofs.Ytkcgenilgboimaa.Pure
