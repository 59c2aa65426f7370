import Derived.Test.YtkcgenilgboimaaMinex8
import Derived.Test.YtkcgenilgboimaaMinex6
import Derived.Test.YtkcgenilgboimaaLSet
namespace Go.Proofs.Ytkcgenilgboimaa.Pure
open Go.RowKit Go.Proofs.Ytkcgenilgboimaa.Mine Go.Proofs.YtkcgenilgboimaaW.PrintWords Go.Proofs.YtkcgenilgboimaaW.PrintLast Go.Proofs.YtkcgenilgboimaaW.PrintMore

/-- The list with y ahead of each. -/
def amid (y : S42) : List S42 → List S42
  | [] => []
  | x :: l => y :: x :: amid y l
theorem lc_amid (c : Bool) {y : S42} (hy : oc c y = 0) : ∀ l, lc c (amid y l ++ [y]) = lc c l
  | [] => by simp [amid, lc, hy]
  | x :: l => by simp only [amid, List.cons_append, lc, if_pos hy, lc_amid c hy l]
theorem lv_amid {y : S42} (hy : ∀ v, ov y v = v) : ∀ (l : List S42) (v : Vs), lv (amid y l ++ [y]) v = lv l v
  | [], v => by simp [amid, lv, hy]
  | x :: l, v => by simp only [amid, List.cons_append, lv, hy, lv_amid hy l]
theorem amid_length (y : S42) : ∀ l, (amid y l).length = 2 * l.length
  | [] => rfl
  | x :: l => by simp only [amid, List.length_cons, amid_length y l]; omega
theorem amid_snoc (y x : S42) : ∀ l, amid y (l ++ [x]) = amid y l ++ [y, x]
  | [] => rfl
  | z :: l => by simp only [List.cons_append, amid, amid_snoc y x l]
theorem none_l0 (c : Bool) (l : List S42) (hl : l.length ≤ 500) (n m : Int) (ho : oc c ⟨n, m⟩ = 0) (hv : ∀ v, ov ⟨n, m⟩ v = v) : ∀ (d k i : Nat), i + d = l.length → d + 2000 < k →
    nunciolaw16_SettingsNone.l0 k c l n m (amid ⟨n, m⟩ (l.take i)) (i : Int) = some true
  | 0, k, i, hd, hk => by
    obtain ⟨k, rfl⟩ : ∃ m, k = m + 1 := ⟨k - 1, by omega⟩
    have hlen := amid_length ⟨n, m⟩ l
    simp only [nunciolaw16_SettingsNone.l0]
    rw [if_neg (by omega), List.take_of_length_le (by omega), if_pos (by omega)]
    rw [defaults_f]
    simp only [Option.bind_some]
    rw [apply_f (v := dv) (by omega) (by omega)]
    simp only [Option.bind_some]
    rw [apply_f (v := dv) (by rw [List.length_append, List.length_singleton]; omega) (by rw [List.length_append, List.length_singleton]; omega)]
    simp only [Option.bind_some, ap, lc_amid c ho, lv_amid hv]
    simp
  | d + 1, k, i, hd, hk => by
    obtain ⟨k, rfl⟩ : ∃ m, k = m + 1 := ⟨k - 1, by omega⟩
    have hi : i < l.length := by omega
    have e1 : wrap64 ((i : Int) + 1) = ((i + 1 : Nat) : Int) := by rw [w64 (by omega) (by omega)]; omega
    have e2 : rd_T42 l (i : Int) = l[i] := by unfold rd_T42; rw [Int.toNat_natCast]; simp [hi]
    have hlen := amid_length ⟨n, m⟩ (l.take i)
    rw [List.length_take] at hlen
    simp only [nunciolaw16_SettingsNone.l0]
    rw [if_pos (by omega), if_pos (by omega), e2, e1]
    simp only [Option.bind_some]
    rw [if_pos (by simp only [List.length_cons, List.length_nil]; omega)]
    have e3 : amid ⟨n, m⟩ (l.take i) ++ [(⟨n, m⟩ : S42), ⟨l[i].f0, l[i].f1⟩] = amid ⟨n, m⟩ (l.take (i + 1)) := by
      rw [List.take_add_one, List.getElem?_eq_getElem hi, Option.toList_some, amid_snoc]
    rw [e3]
    exact none_l0 c l hl n m ho hv d k (i + 1) (by omega) (by omega)

theorem none_j0 (c : Bool) (l : List S42) (hl : l.length ≤ 500) (n m : Int) (ho : oc c ⟨n, m⟩ = 0) (hv : ∀ v, ov ⟨n, m⟩ v = v) :
    nunciolaw16_SettingsNone.j0 (4999 + 1) c l n m false = some true := by
  simp only [nunciolaw16_SettingsNone.j0]
  rw [if_neg (by simp)]
  exact none_l0 c l hl n m ho hv l.length 4999 0 (by omega) (by omega)
theorem none_j0t (c : Bool) (l : List S42) (n m : Int) : nunciolaw16_SettingsNone.j0 (4999 + 1) c l n m true = some true := by
  simp only [nunciolaw16_SettingsNone.j0, if_true]
theorem awake16 {k : Nat} (hk : 100 ≤ k) : nunciolaw16_awake.f k = some true := by
  have h : nunciolaw16_awake.f 100 = some true := by decide +kernel
  exact leO_ge (nunciolaw16_awake.mono) h hk

theorem SettingsNone : nunciolaw16_SettingsNone.Pure := by
  intro c l n m _ _ _
  refine ⟨5000, ?_⟩
  unfold nunciolaw16_SettingsNone.f
  rw [awake16 (by omega)]
  simp only [Option.bind_some, if_true]
  by_cases h5 : (l.length : Int) > 500
  · rw [if_pos h5]; exact none_j0t c l n m
  rw [if_neg h5]
  by_cases h1 : n ≥ 1
  · rw [if_pos h1]
    by_cases h6 : n ≤ 6
    · rw [decide_eq_true h6]; exact none_j0t c l n m
    · rw [decide_eq_false h6]
      have ho : oc c ⟨n, m⟩ = 0 := by simp only [oc]; rw [if_neg (by omega), if_neg (by omega), if_neg (by omega)]
      have hv : ∀ v, ov ⟨n, m⟩ v = v := by intro v; simp only [ov]; rw [if_neg (by omega), if_neg (by omega), if_neg (by omega), if_neg (by omega), if_neg (by omega), if_neg (by omega)]
      exact none_j0 c l (by omega) n m ho hv
  · rw [if_neg h1]
    have ho : oc c ⟨n, m⟩ = 0 := by simp only [oc]; rw [if_neg (by omega), if_neg (by omega), if_neg (by omega)]
    have hv : ∀ v, ov ⟨n, m⟩ v = v := by intro v; simp only [ov]; rw [if_neg (by omega), if_neg (by omega), if_neg (by omega), if_neg (by omega), if_neg (by omega), if_neg (by omega)]
    exact none_j0 c l (by omega) n m ho hv
end Go.Proofs.Ytkcgenilgboimaa.Pure
