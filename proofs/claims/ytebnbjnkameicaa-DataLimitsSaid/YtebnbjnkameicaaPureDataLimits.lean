import Derived.Test.YtebnbjnkameicaaMinex29
import Derived.Test.YtebnbjnkameicaaMinex13
import Derived.Test.YtebnbjnkameicaaLInj
import Derived.Test.YtebnbjnkameicaaLCopied
namespace Go.Proofs.Ytebnbjnkameicaa.Pure
open Go.RowKit Go.Proofs.Ytebnbjnkameicaa.Mine Go.Proofs.YtebnbjnkameicaaW.PrintWords Go.Proofs.YtebnbjnkameicaaW.PrintLast Go.Proofs.YtebnbjnkameicaaW.PrintMore
set_option linter.unusedSimpArgs false
set_option linter.unusedVariables false

theorem awake05 {k : Nat} (hk : 400 ≤ k) : nunciolaw05_awake.f k = some true := by
  have h : nunciolaw05_awake.f 400 = some true := by decide +kernel
  exact leO_ge (nunciolaw05_awake.mono) h hk
theorem LB_x {a : ByteArray} (h : (LB a).isSome = true) : (LB (a ++ (⟨#[120]⟩ : ByteArray))).isSome = false := by
  cases h2 : (LB (a ++ (⟨#[120]⟩ : ByteArray))).isSome with
  | false => rfl
  | true =>
    have e : bytesOf a ++ bytesOf (⟨#[120]⟩ : ByteArray) = bytesOf (a ++ (⟨#[120]⟩ : ByteArray)) ++ [] := by rw [bytesOf_append, List.append_nil]
    have e2 := congrArg List.length (name_pf h h2 e).2
    rw [← size_bytesOf] at e2
    exact absurd e2 (by decide)
theorem LB_root : (LB (⟨#[0]⟩ : ByteArray)).isSome = true := by
  unfold LB
  rw [if_neg (by decide), show bytesOf (⟨#[0]⟩ : ByteArray) = [0] from rfl, show (⟨#[0]⟩ : ByteArray).size + 1 = 2 from rfl]
  rfl
theorem CK_time {a : ByteArray} {t e e' : Int} {ns : List ByteArray} {us : List Int} {ts : List ByteArray} (h : CK a t e ns us ts = 0) (ht : t ≠ 41) (he : e' > 2147483647) : CK a t e' ns us ts = 1 := by
  obtain ⟨h1, h2, h3, _⟩ := CK_zero h
  unfold CK
  rw [h1, h2, h3]
  simp [he, ht]
theorem CK_name {a b : ByteArray} {t e : Int} {ns : List ByteArray} {us : List Int} {ts : List ByteArray} (h : (LB b).isSome = false) : CK b t e ns us ts = 40 := by
  unfold CK
  rw [h]
  simp
theorem CK_data {a : ByteArray} {t e : Int} {ns : List ByteArray} {us : List Int} {ts : List ByteArray} (h1 : (LB a).isSome = true) (h2 : (ns.all fun s => (LB s).isSome) = true) (h3 : SH t ns us ts = false) : CK a t e ns us ts = 50 := by
  unfold CK
  rw [h1, h2, h3]
  simp
theorem SH_no {t : Int} {ns : List ByteArray} {us : List Int} {ts : List ByteArray} (h : (ns.length : Int) ≠ (shp t).1 ∨ (us.length : Int) ≠ (shp t).2.1 ∨ us.all (uOK t) = false) : SH t ns us ts = false := by
  cases hs : SH t ns us ts with
  | false => rfl
  | true =>
    obtain ⟨a1, a2, a3, a4, a5⟩ := SHL_len hs
    rcases h with h | h | h
    · exact absurd a1 h
    · exact absurd a2 h
    · rw [a4] at h; exact absurd h (by simp)
theorem DataLimits : nunciolaw05_DataLimits.Pure := by
  intro a t c e ns us ts q _ _ _ _ hns hus hts hq
  obtain ⟨K, hK, hK2⟩ : ∃ K, 60001 ≤ K ∧ ns.length + ts.length < K := ⟨60001 + ns.length + ts.length, by omega, by omega⟩
  refine ⟨K + 1 + 1 + 1, ?_⟩
  obtain ⟨b, e1, f1⟩ := rfew_f (k := K + 1 + 1 + 1) a t c e ns us ts (by omega) (by omega) hus.2.2 (by omega)
  have hq := b_u32 hq
  have T : nunciolaw05_DataLimits.j0 (K + 1 + 1 + 1) q true a t c e ns us ts = some true := by simp only [nunciolaw05_DataLimits.j0]; rw [if_pos trivial]
  unfold nunciolaw05_DataLimits.f
  rw [awake05 (by omega), Option.bind_some, if_pos rfl, e1, Option.bind_some]
  cases b with
  | false => rw [if_neg (by simp), T]
  | true =>
    obtain ⟨g1, g2, g3, g4, hr⟩ := f1 rfl
    rw [if_pos rfl, check_f _ _ _ hr (by omega), Option.bind_some]
    by_cases h : CK a t e ns us ts = 0
    · rw [show (CK a t e ns us ts != 0) = false by simp [h]]
      obtain ⟨h1, h2, h3, _⟩ := CK_zero h
      obtain ⟨a1, a2, a3, a4, a5⟩ := SHL_len h3
      have hl1 := tot_len ns
      have hl2 := tot_len ts
      have R1 : Rec (a ++ (⟨#[120]⟩ : ByteArray)) ns us ts := ⟨by rw [ByteArray.size_append, show (⟨#[120]⟩ : ByteArray).size = 1 from rfl]; omega, hr.hn, hr.hu, hr.ht, hr.num⟩
      have R2 : Rec a (ns ++ [(⟨#[0]⟩ : ByteArray)]) us ts := ⟨hr.ha, by rw [tot_append, tot_cons, tot_nil, show (⟨#[0]⟩ : ByteArray).size = 1 from rfl]; omega, hr.hu, hr.ht, hr.num⟩
      have R3 : Rec a ns (us ++ [0]) ts := ⟨hr.ha, hr.hn, by rw [List.length_append, List.length_singleton]; omega, hr.ht, fun u hu => by
        rcases List.mem_append.1 hu with hu | hu
        · exact hr.num u hu
        · rw [List.mem_singleton.1 hu]; omega⟩
      have m0 : 65536 ≤ mx q 65536 ∧ mx q 65536 < 4294967296 := by unfold mx; split <;> omega
      have m1 : mx q 2147483648 > 2147483647 := by unfold mx; split <;> omega
      have R4 : Rec a ns (us.set 0 (mx q 65536)) ts := ⟨hr.ha, hr.hn, by rw [List.length_set]; exact hr.hu, hr.ht, fun u hu => by
        rcases List.mem_or_eq_of_mem_set hu with hu | hu
        · exact hr.num u hu
        · rw [hu]; omega⟩
      have C1 : CK (a ++ (⟨#[120]⟩ : ByteArray)) t e ns us ts = 40 := CK_name (a := a) (LB_x h1)
      have C2 : CK a t e (ns ++ [(⟨#[0]⟩ : ByteArray)]) us ts = 50 := CK_data h1 (by rw [List.all_append, h2, List.all_cons, List.all_nil, LB_root]; rfl) (SH_no (Or.inl (by rw [List.length_append, List.length_singleton]; omega)))
      have C3 : CK a t e ns (us ++ [0]) ts = 50 := CK_data h1 h2 (SH_no (Or.inr (Or.inl (by rw [List.length_append, List.length_singleton]; omega))))
      have J2 : nunciolaw05_DataLimits.j2 (K + 1) q false a t c e ns us ts = some true := by
        simp only [nunciolaw05_DataLimits.j2]
        rw [if_neg (by simp), copied_f _ _ _ hr, Option.bind_some]
        by_cases hz : (us.length : Int) > 0
        · rw [if_pos hz]
          by_cases e6 : t = 6
          · rw [if_pos e6]
          · have C4 : CK a t e ns (us.set 0 (mx q 65536)) ts = 50 := CK_data h1 h2 (SH_no (Or.inr (Or.inr (by
              cases us with
              | nil => simp at hz
              | cons u us =>
                rw [List.set_cons_zero, List.all_cons]
                have : uOK t (mx q 65536) = false := by unfold uOK; rw [decide_eq_false e6, decide_eq_false (by omega)]; rfl
                rw [this]; rfl))))
            rw [if_neg e6, if_pos hz, show ((0 : Int)).toNat = 0 from rfl, check_f _ _ _ R4 (by omega), Option.bind_some, C4]
            rfl
        · rw [if_neg hz]
      have J1 : nunciolaw05_DataLimits.j1 (K + 1 + 1) q false a t c e ns us ts = some true := by
        simp only [nunciolaw05_DataLimits.j1]
        rw [if_neg (by simp), if_pos (by omega), copied_f _ _ _ hr, Option.bind_some, if_pos (show ns.length < 8796093022208 by omega), Option.bind_some, if_pos (show us.length < 35184372088832 by omega), check_f _ _ _ R1 (by omega), Option.bind_some, if_pos C1, check_f _ _ _ R2 (by omega), Option.bind_some, if_pos C2, check_f _ _ _ R3 (by omega), Option.bind_some, C3]
        exact J2
      simp only [nunciolaw05_DataLimits.j0]
      rw [if_neg (by simp)]
      by_cases h41 : t = 41
      · rw [if_pos h41]; exact J1
      · rw [if_neg h41, check_f _ _ _ ⟨hr.ha, hr.hn, hr.hu, hr.ht, hr.num⟩ (by omega), Option.bind_some, CK_time h h41 m1]
        exact J1
    · rw [show (CK a t e ns us ts != 0) = true by simp [h]]; exact T
end Go.Proofs.Ytebnbjnkameicaa.Pure
