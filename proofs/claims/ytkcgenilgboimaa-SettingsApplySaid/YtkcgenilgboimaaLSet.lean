/- What the printed settings.Apply answers. -/
import Derived.Test.YtkcgenilgboimaaMinex4
import Derived.Test.YtkcgenilgboimaaMinex3
import Derived.Test.YtkcgenilgboimaaLBase
namespace Go.Proofs.Ytkcgenilgboimaa.Pure
open Go.RowKit Go.Proofs.Ytkcgenilgboimaa.Mine Go.Proofs.YtkcgenilgboimaaW.PrintWords Go.Proofs.YtkcgenilgboimaaW.PrintLast Go.Proofs.YtkcgenilgboimaaW.PrintMore

abbrev Vs := Int × Int × Int × Int × Int × Bool
/-- The code of one setting. -/
def oc (c : Bool) (x : S42) : Int :=
  if x.f0 = 2 then (if x.f1 > 1 then 1 else if c = true then (if x.f1 = 1 then 1 else 0) else 0)
  else if x.f0 = 4 then (if x.f1 > 2147483647 then 3 else 0)
  else if x.f0 = 5 then (if x.f1 < 16384 then 1 else if x.f1 > 16777215 then 1 else 0) else 0
/-- What one setting leaves. -/
def ov (x : S42) (v : Vs) : Vs :=
  if x.f0 = 1 then (x.f1, v.2.1, v.2.2.1, v.2.2.2.1, v.2.2.2.2.1, v.2.2.2.2.2)
  else if x.f0 = 2 then (v.1, v.2.1, v.2.2.1, v.2.2.2.1, v.2.2.2.2.1, (x.f1 == 1))
  else if x.f0 = 3 then (v.1, x.f1, v.2.2.1, v.2.2.2.1, v.2.2.2.2.1, v.2.2.2.2.2)
  else if x.f0 = 4 then (v.1, v.2.1, x.f1, v.2.2.2.1, v.2.2.2.2.1, v.2.2.2.2.2)
  else if x.f0 = 5 then (v.1, v.2.1, v.2.2.1, x.f1, v.2.2.2.2.1, v.2.2.2.2.2)
  else if x.f0 = 6 then (v.1, v.2.1, v.2.2.1, v.2.2.2.1, x.f1, v.2.2.2.2.2)
  else v
theorem one_eq (c : Bool) (x : S42) (v : Vs) :
    settings_Values_one.f v.1 v.2.1 v.2.2.1 v.2.2.2.1 v.2.2.2.2.1 v.2.2.2.2.2 c x.f0 x.f1 = some (oc c x, if oc c x = 0 then ov x v else v) := by
  unfold settings_Values_one.f oc ov
  by_cases h1 : x.f0 = 1
  · rw [if_pos h1, if_pos h1]; simp [h1]
  by_cases h2 : x.f0 = 2
  · simp only [h2]; repeat (first | rfl | split) <;> simp_all
  by_cases h3 : x.f0 = 3
  · simp [h3]
  by_cases h4 : x.f0 = 4
  · by_cases hx : x.f1 > 2147483647
    · simp [h4, hx] <;> (intro _; omega)
    · simp [h4, hx] <;> (intro _; omega)
  by_cases h5 : x.f0 = 5
  · by_cases hx : x.f1 < 16384
    · simp [h5, hx] <;> (intro _; omega)
    · by_cases hy : x.f1 > 16777215
      · simp [h5, hx, hy] <;> (intros; omega)
      · simp [h5, hx, hy] <;> (intros; omega)
  by_cases h6 : x.f0 = 6
  · simp [h6]
  · simp [h1, h2, h3, h4, h5, h6]
/-- The code of a list, and what it leaves. -/
def lc (c : Bool) : List S42 → Int
  | [] => 0
  | x :: l => if oc c x = 0 then lc c l else oc c x
def lv : List S42 → Vs → Vs
  | [], v => v
  | x :: l, v => lv l (ov x v)
def fl (v : Vs) (n : Int) : Int × Int × Int × Int × Int × Bool × Int := (v.1, v.2.1, v.2.2.1, v.2.2.2.1, v.2.2.2.2.1, v.2.2.2.2.2, n)
def ap (c : Bool) (l : List S42) (v0 v : Vs) : Int × Int × Int × Int × Int × Bool × Int := if lc c l = 0 then fl (lv l v) 0 else fl v0 (lc c l)

theorem apply_l0 (c : Bool) (l : List S42) (hl : l.length ≤ 4611686018427387904) (v0 : Vs) : ∀ (d k i : Nat) (v : Vs), i + d = l.length → d < k →
    settings_Apply.l0 k c l (l.length : Int) (i : Int) v0.1 v0.2.1 v0.2.2.1 v0.2.2.2.1 v0.2.2.2.2.1 v0.2.2.2.2.2 v.1 v.2.1 v.2.2.1 v.2.2.2.1 v.2.2.2.2.1 v.2.2.2.2.2 = some (ap c (l.drop i) v0 v)
  | 0, k, i, v, hd, hk => by
    obtain ⟨k, rfl⟩ : ∃ m, k = m + 1 := ⟨k - 1, by omega⟩
    simp only [settings_Apply.l0]
    rw [if_neg (by omega), List.drop_eq_nil_of_le (by omega)]
    rfl
  | d + 1, k, i, v, hd, hk => by
    obtain ⟨k, rfl⟩ : ∃ m, k = m + 1 := ⟨k - 1, by omega⟩
    have hi : i < l.length := by omega
    have e1 : wrap64 ((i : Int) + 1) = ((i + 1 : Nat) : Int) := by rw [w64 (by omega) (by omega)]; omega
    have e2 : rd_T42 l (i : Int) = l[i] := by unfold rd_T42; rw [Int.toNat_natCast]; simp [hi]
    simp only [settings_Apply.l0]
    rw [if_pos (by omega), if_pos (by omega), if_pos (by omega), e2, one_eq, e1]
    simp only [Option.bind_some]
    rw [List.drop_eq_getElem_cons hi]
    by_cases h0 : oc c l[i] = 0
    · rw [if_pos h0, if_pos h0, apply_l0 c l hl v0 d k (i + 1) (ov l[i] v) (by omega) (by omega)]
      simp only [ap, lc, lv, if_pos h0]
    · rw [if_neg h0]
      simp only [ap, lc, if_neg h0, fl]
theorem apply_f {c : Bool} {l : List S42} {k : Nat} (hl : l.length ≤ 4611686018427387904) (hk : l.length < k) (v : Vs) :
    settings_Apply.f k v.1 v.2.1 v.2.2.1 v.2.2.2.1 v.2.2.2.2.1 v.2.2.2.2.2 c l = some (ap c l v v) := by
  have := apply_l0 c l hl v l.length k 0 v (by omega) hk
  rw [List.drop_zero] at this
  exact this
def dv : Vs := (4096, 4294967295, 65535, 16384, 4294967295, true)
theorem defaults_f : settings_Defaults.f = some dv := rfl
theorem lc_append (c : Bool) : ∀ a b, lc c (a ++ b) = if lc c a = 0 then lc c b else lc c a
  | [], b => by simp [lc]
  | x :: a, b => by
    by_cases h : oc c x = 0 <;> simp [lc, h, lc_append c a b]
theorem lv_append : ∀ (a b : List S42) (v : Vs), lv (a ++ b) v = lv b (lv a v)
  | [], _, _ => rfl
  | _ :: a, b, _ => lv_append a b _
end Go.Proofs.Ytkcgenilgboimaa.Pure
