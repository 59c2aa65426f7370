/- What rdata.Same answers. -/
import Derived.Test.YtebnbjnkameicaaMinex12
import Derived.Test.YtebnbjnkameicaaMinex13
import Derived.Test.YtebnbjnkameicaaLRec
namespace Go.Proofs.Ytebnbjnkameicaa.Pure
open Go.RowKit Go.Proofs.Ytebnbjnkameicaa.Mine Go.Proofs.YtebnbjnkameicaaW.PrintWords Go.Proofs.YtebnbjnkameicaaW.PrintLast Go.Proofs.YtebnbjnkameicaaW.PrintMore
set_option linter.unusedSimpArgs false
set_option linter.unusedVariables false

theorem dec_cons {α : Type} [DecidableEq α] (a b : α) (l m : List α) (h : a = b) : decide (a :: l = b :: m) = decide (l = m) := by subst h; simp
theorem eqs_l0 (l m : List ByteArray) (hl : l.length ≤ 1000000) (he : l.length = m.length) : ∀ (d k i : Nat), i + d = l.length → d < k → slices_Equal_string_string.l0 k l m (l.length : Int) (i : Int) = some (decide (l.drop i = m.drop i))
  | 0, k, i, hd, hk => by
    obtain ⟨k, rfl⟩ : ∃ m, k = m + 1 := ⟨k - 1, by omega⟩
    simp only [slices_Equal_string_string.l0]
    rw [if_neg (by omega), List.drop_eq_nil_of_le (by omega), List.drop_eq_nil_of_le (by omega)]; simp
  | d + 1, k, i, hd, hk => by
    obtain ⟨k, rfl⟩ : ∃ m, k = m + 1 := ⟨k - 1, by omega⟩
    have hi : i < l.length := by omega
    have hj : i < m.length := by omega
    have ih := eqs_l0 l m hl he d k (i + 1) (by omega) (by omega)
    simp only [slices_Equal_string_string.l0]
    rw [if_pos (by omega), if_pos (by omega), if_pos (by omega), if_pos (by omega), rdo hi, rdo hj, w64 (by omega) (by omega), List.drop_eq_getElem_cons hi, List.drop_eq_getElem_cons hj]
    by_cases h : l[i] = m[i]
    · rw [if_pos (by rw [h]), dec_cons _ _ _ _ h]; exact ih
    · rw [if_neg (fun e => h (toList_inj.1 e)), decide_eq_false (fun e => h (List.cons.inj e).1)]
theorem equ_l0 (l m : List Int) (hl : l.length ≤ 1000000) (he : l.length = m.length) : ∀ (d k i : Nat), i + d = l.length → d < k → slices_Equal_uint32_uint32.l0 k l m (l.length : Int) (i : Int) = some (decide (l.drop i = m.drop i))
  | 0, k, i, hd, hk => by
    obtain ⟨k, rfl⟩ : ∃ m, k = m + 1 := ⟨k - 1, by omega⟩
    simp only [slices_Equal_uint32_uint32.l0]
    rw [if_neg (by omega), List.drop_eq_nil_of_le (by omega), List.drop_eq_nil_of_le (by omega)]; simp
  | d + 1, k, i, hd, hk => by
    obtain ⟨k, rfl⟩ : ∃ m, k = m + 1 := ⟨k - 1, by omega⟩
    have hi : i < l.length := by omega
    have hj : i < m.length := by omega
    have ih := equ_l0 l m hl he d k (i + 1) (by omega) (by omega)
    simp only [slices_Equal_uint32_uint32.l0]
    rw [if_pos (by omega), if_pos (by omega), if_pos (by omega), if_pos (by omega), rd_nat hi, rd_nat hj, w64 (by omega) (by omega), List.drop_eq_getElem_cons hi, List.drop_eq_getElem_cons hj]
    by_cases h : l[i] = m[i]
    · rw [if_pos h, dec_cons _ _ _ _ h]; exact ih
    · rw [if_neg h, decide_eq_false (fun e => h (List.cons.inj e).1)]
theorem eqs_f {k : Nat} {l m : List ByteArray} (hl : l.length ≤ 1000000) (hk : l.length < k) : slices_Equal_string_string.f k l m = some (decide (l = m)) := by
  unfold slices_Equal_string_string.f
  by_cases he : l.length = m.length
  · have := eqs_l0 l m hl he l.length k 0 (by omega) hk
    rw [List.drop_zero, List.drop_zero] at this
    rw [if_pos (by omega)]; exact this
  · rw [if_neg (by omega), decide_eq_false (fun e => he (by rw [e]))]
theorem equ_f {k : Nat} {l m : List Int} (hl : l.length ≤ 1000000) (hk : l.length < k) : slices_Equal_uint32_uint32.f k l m = some (decide (l = m)) := by
  unfold slices_Equal_uint32_uint32.f
  by_cases he : l.length = m.length
  · have := equ_l0 l m hl he l.length k 0 (by omega) hk
    rw [List.drop_zero, List.drop_zero] at this
    rw [if_pos (by omega)]; exact this
  · rw [if_neg (by omega), decide_eq_false (fun e => he (by rw [e]))]
/-- Are two records alike? -/
def SA (a : ByteArray) (t c e : Int) (ns : List ByteArray) (us : List Int) (ts : List ByteArray) (a' : ByteArray) (t' c' e' : Int) (ns' : List ByteArray) (us' : List Int) (ts' : List ByteArray) : Prop :=
  a = a' ∧ t = t' ∧ c = c' ∧ e = e' ∧ ns = ns' ∧ us = us' ∧ ts = ts'
instance (a : ByteArray) (t c e : Int) (ns : List ByteArray) (us : List Int) (ts : List ByteArray) (a' : ByteArray) (t' c' e' : Int) (ns' : List ByteArray) (us' : List Int) (ts' : List ByteArray) : Decidable (SA a t c e ns us ts a' t' c' e' ns' us' ts') := by unfold SA; infer_instance
theorem same_f {k : Nat} {a : ByteArray} (t c e : Int) {ns : List ByteArray} {us : List Int} {ts : List ByteArray} (h : Rec a ns us ts) (a' : ByteArray) (t' c' e' : Int) (ns' : List ByteArray) (us' : List Int) (ts' : List ByteArray) (hk : 20000 < k) :
    rdata_Same.f k a t c e ns us ts a' t' c' e' ns' us' ts' = some (decide (SA a t c e ns us ts a' t' c' e' ns' us' ts')) := by
  have h2 := h.hn
  have h3 := h.hu
  have h4 := h.ht
  have h5 := tot_len ns
  have h6 := tot_len ts
  unfold rdata_Same.f
  rw [eqs_f (by omega) (by omega), eqs_f (by omega) (by omega), equ_f (by omega) (by omega), Option.bind_some, Option.bind_some, Option.bind_some]
  simp only [toList_inj, SA]
  by_cases e1 : a = a'
  · by_cases e2 : t = t'
    · by_cases e3 : c = c'
      · by_cases e4 : e = e'
        · by_cases e5 : ns = ns'
          · by_cases e6 : us = us'
            · simp [e1, e2, e3, e4, e5, e6]
            · simp [e1, e2, e3, e4, e5, e6]
          · simp [e1, e2, e3, e4, e5]
        · simp [e1, e2, e3, e4]
      · simp [e1, e2, e3]
    · simp [e1, e2]
  · simp [e1]
end Go.Proofs.Ytebnbjnkameicaa.Pure
