import Derived.Test.YtkcgenilgboimaaMinex7
import Derived.Test.YtkcgenilgboimaaMinex6
import Derived.Test.YtkcgenilgboimaaLSet
namespace Go.Proofs.Ytkcgenilgboimaa.Pure
open Go.RowKit Go.Proofs.Ytkcgenilgboimaa.Mine Go.Proofs.YtkcgenilgboimaaW.PrintWords Go.Proofs.YtkcgenilgboimaaW.PrintLast Go.Proofs.YtkcgenilgboimaaW.PrintMore

/-- What may be told. -/
def InvS (c : Bool) (v : Vs) : Prop := v.2.2.1 ≤ 2147483647 ∧ 16384 ≤ v.2.2.2.1 ∧ v.2.2.2.1 ≤ 16777215 ∧ (c = true → v.2.2.2.2.2 = false)
theorem inv_ov {c : Bool} {x : S42} {v : Vs} (h0 : oc c x = 0) (h : InvS c v) : InvS c (ov x v) := by
  obtain ⟨hw, hf, hg, hp⟩ := h
  unfold oc at h0
  unfold ov
  by_cases h1 : x.f0 = 1
  · rw [if_pos h1]; exact ⟨hw, hf, hg, hp⟩
  rw [if_neg h1]
  by_cases h2 : x.f0 = 2
  · rw [if_pos h2] at h0 ⊢
    refine ⟨hw, hf, hg, fun hc => ?_⟩
    by_cases h3 : x.f1 > 1
    · rw [if_pos h3] at h0; omega
    rw [if_neg h3, if_pos hc] at h0
    by_cases h4 : x.f1 = 1
    · rw [if_pos h4] at h0; omega
    · exact beq_eq_false_iff_ne.2 h4
  rw [if_neg h2] at h0 ⊢
  by_cases h3 : x.f0 = 3
  · rw [if_pos h3]; exact ⟨hw, hf, hg, hp⟩
  rw [if_neg h3]
  by_cases h4 : x.f0 = 4
  · rw [if_pos h4] at h0 ⊢
    by_cases h5 : x.f1 > 2147483647
    · rw [if_pos h5] at h0; omega
    · exact ⟨by show x.f1 ≤ _; omega, hf, hg, hp⟩
  rw [if_neg h4] at h0 ⊢
  by_cases h5 : x.f0 = 5
  · rw [if_pos h5] at h0 ⊢
    by_cases h6 : x.f1 < 16384
    · rw [if_pos h6] at h0; omega
    rw [if_neg h6] at h0
    by_cases h7 : x.f1 > 16777215
    · rw [if_pos h7] at h0; omega
    · exact ⟨hw, by show _ ≤ x.f1; omega, by show x.f1 ≤ _; omega, hp⟩
  rw [if_neg h5]
  by_cases h6 : x.f0 = 6
  · rw [if_pos h6]; exact ⟨hw, hf, hg, hp⟩
  · rw [if_neg h6]; exact ⟨hw, hf, hg, hp⟩
theorem inv_lv {c : Bool} : ∀ {l : List S42} {v : Vs}, lc c l = 0 → InvS c v → InvS c (lv l v)
  | [], _, _, h => h
  | x :: l, v, h0, h => by
    have h1 : oc c x = 0 := by
      by_cases h2 : oc c x = 0
      · exact h2
      · simp only [lc, if_neg h2] at h0; exact absurd h0 h2
    simp only [lc, if_pos h1] at h0
    exact inv_lv (l := l) h0 (inv_ov h1 h)
theorem oc_codes (c : Bool) (x : S42) : oc c x = 0 ∨ oc c x = 1 ∨ oc c x = 3 := by
  unfold oc
  repeat' split
  all_goals simp
theorem lc_codes (c : Bool) : ∀ l, lc c l = 0 ∨ lc c l = 1 ∨ lc c l = 3
  | [] => .inl rfl
  | x :: l => by
    by_cases h : oc c x = 0
    · simp only [lc, if_pos h]; exact lc_codes c l
    · simp only [lc, if_neg h]; exact oc_codes c x
theorem right_j1 {c : Bool} {ls : List (List S42)} {k : Nat} {i : Int} {v : Vs} (h : InvS c v) (hl : nunciolaw16_SettingsRight.l0 k c ls (wrap64 (i + 1)) v.1 v.2.1 v.2.2.1 v.2.2.2.1 v.2.2.2.2.1 v.2.2.2.2.2 = some true) :
    nunciolaw16_SettingsRight.j1 (k + 1) c ls i false v.1 v.2.1 v.2.2.1 v.2.2.2.1 v.2.2.2.2.1 v.2.2.2.2.2 = some true := by
  obtain ⟨hw, hf, hg, hp⟩ := h
  simp only [nunciolaw16_SettingsRight.j1]
  rw [if_neg (by simp), if_neg (by omega), if_neg (by omega), if_neg (by omega), hl]
  cases c with
  | false => simp
  | true => simp [hp rfl]
theorem right_l0 (c : Bool) (ls : List (List S42)) (hl : ls.length ≤ 50) : ∀ (d k i : Nat) (v : Vs), i + d = ls.length → 2 * d + 300 < k → InvS c v →
    nunciolaw16_SettingsRight.l0 k c ls (i : Int) v.1 v.2.1 v.2.2.1 v.2.2.2.1 v.2.2.2.2.1 v.2.2.2.2.2 = some true
  | 0, k, i, v, hd, hk, _ => by
    obtain ⟨k, rfl⟩ : ∃ m, k = m + 1 := ⟨k - 1, by omega⟩
    simp only [nunciolaw16_SettingsRight.l0]
    rw [if_neg (by omega)]
  | d + 1, k, i, v, hd, hk, hv => by
    obtain ⟨k, rfl⟩ : ∃ m, k = m + 1 + 1 := ⟨k - 2, by omega⟩
    have hi : i < ls.length := by omega
    have e1 : wrap64 ((i : Int) + 1) = ((i + 1 : Nat) : Int) := by rw [w64 (by omega) (by omega)]; omega
    have e2 : rd_L4 ls (i : Int) = ls[i] := by unfold rd_L4; rw [Int.toNat_natCast]; simp [hi]
    rw [nunciolaw16_SettingsRight.l0]
    rw [if_pos (by omega), if_pos (by omega), e2]
    by_cases h2 : ((ls[i]).length : Int) > 200
    · rw [if_pos h2]
    rw [if_neg h2, apply_f (by omega) (by omega)]
    simp only [Option.bind_some]
    by_cases h0 : lc c ls[i] = 0
    · have e3 : ap c ls[i] v v = fl (lv ls[i] v) 0 := by simp only [ap, if_pos h0]
      rw [e3]
      simp only [fl, if_true]
      exact right_j1 (inv_lv h0 hv) (by rw [e1]; exact right_l0 c ls hl d k (i + 1) _ (by omega) (by omega) (inv_lv h0 hv))
    · have e3 : ap c ls[i] v v = fl v (lc c ls[i]) := by simp only [ap, if_neg h0]
      have hj := right_j1 (k := k) (ls := ls) (i := (i : Int)) hv (by rw [e1]; exact right_l0 c ls hl d k (i + 1) v (by omega) (by omega) hv)
      rw [e3]
      rcases lc_codes c ls[i] with h | h | h
      · exact absurd h h0
      · simp [fl, h]; exact hj
      · simp [fl, h]; exact hj

theorem awake16r {k : Nat} (hk : 100 ≤ k) : nunciolaw16_awake.f k = some true := by
  have h : nunciolaw16_awake.f 100 = some true := by decide +kernel
  exact leO_ge (nunciolaw16_awake.mono) h hk
theorem SettingsRight : nunciolaw16_SettingsRight.Pure := by
  intro c ls _
  refine ⟨1000, ?_⟩
  unfold nunciolaw16_SettingsRight.f
  rw [awake16r (by omega)]
  simp only [Option.bind_some, if_true]
  by_cases h5 : (ls.length : Int) > 50
  · rw [if_pos h5]
  rw [if_neg h5, defaults_f]
  simp only [Option.bind_some]
  exact right_l0 c ls (by omega) ls.length 1000 0 (4096, 4294967295, 65535, 16384, 4294967295, !c) (by omega) (by omega) ⟨by show (65535 : Int) ≤ 2147483647; decide, by show (16384 : Int) ≤ 16384; decide, by show (16384 : Int) ≤ 16777215; decide, fun hc => by rw [hc]; rfl⟩
end Go.Proofs.Ytkcgenilgboimaa.Pure
