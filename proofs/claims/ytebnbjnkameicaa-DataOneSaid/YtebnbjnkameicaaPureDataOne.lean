import Derived.Test.YtebnbjnkameicaaMinex28
import Derived.Test.YtebnbjnkameicaaMinex13
import Derived.Test.YtebnbjnkameicaaLSame
import Derived.Test.YtebnbjnkameicaaLInj
namespace Go.Proofs.Ytebnbjnkameicaa.Pure
open Go.RowKit Go.Proofs.Ytebnbjnkameicaa.Mine Go.Proofs.YtebnbjnkameicaaW.PrintWords Go.Proofs.YtebnbjnkameicaaW.PrintLast Go.Proofs.YtebnbjnkameicaaW.PrintMore
set_option linter.unusedSimpArgs false
set_option linter.unusedVariables false

theorem awake05 {k : Nat} (hk : 400 ≤ k) : nunciolaw05_awake.f k = some true := by
  have h : nunciolaw05_awake.f 400 = some true := by decide +kernel
  exact leO_ge (nunciolaw05_awake.mono) h hk
theorem PL_bytes1 (t : Int) (ns : List ByteArray) (us : List Int) (ts : List ByteArray) : Bytes (PL t ns us ts) := by
  have F : ∀ {α : Type} (f : α → List Int), (∀ x, Bytes (f x)) → ∀ l : List α, Bytes (l.flatMap f) := by
    intro α f hf l x hx
    obtain ⟨y, _, hy⟩ := List.mem_flatMap.1 hx
    exact hf y x hy
  unfold PL
  refine Bytes.append ?_ ((F _ bytesOf_bytes _).append (Bytes.append ?_ (F _ (tB_bytes t) _)))
  · split
    · exact Bytes.nil
    · exact F _ (fun n => be_bytes n 2) _
  · split
    · exact F _ (fun n => be_bytes n 4) _
    · exact Bytes.nil
theorem DataOne : nunciolaw05_DataOne.Pure := by
  intro a t c e ns us ts a' t' c' e' ns' us' ts' _ _ _ _ hns hus hts _ _ _ _ hns' hus' hts'
  obtain ⟨K, hK, hK2, hK3⟩ : ∃ K, 60001 ≤ K ∧ ns.length + ts.length < K ∧ ns'.length + ts'.length < K := ⟨60001 + ns.length + ts.length + ns'.length + ts'.length, by omega, by omega, by omega⟩
  refine ⟨K + 1 + 1, ?_⟩
  obtain ⟨b, e1, f1⟩ := rfew_f (k := K + 1 + 1) a t c e ns us ts (by omega) (by omega) hus.2.2 (by omega)
  obtain ⟨b', e1', f1'⟩ := rfew_f (k := K + 1 + 1) a' t' c' e' ns' us' ts' (by omega) (by omega) hus'.2.2 (by omega)
  have T : nunciolaw05_DataOne.j0 (K + 1 + 1) true a t c e ns us ts a' t' c' e' ns' us' ts' = some true := by simp only [nunciolaw05_DataOne.j0]; rw [if_pos trivial]
  unfold nunciolaw05_DataOne.f
  rw [awake05 (by omega), Option.bind_some, if_pos rfl, e1, Option.bind_some]
  cases b with
  | false => rw [if_neg (by simp), T]
  | true =>
    obtain ⟨_, _, _, _, hr⟩ := f1 rfl
    rw [if_pos rfl, e1', Option.bind_some]
    cases b' with
    | false => exact T
    | true =>
      obtain ⟨_, _, _, _, hq⟩ := f1' rfl
      have hq : Rec a ns' us' ts' := ⟨hr.ha, hq.hn, hq.hu, hq.ht, hq.num⟩
      simp only [nunciolaw05_DataOne.j0]
      rw [Bool.not_true, if_neg (by simp), check_f _ _ _ hr (by omega), Option.bind_some]
      have J : nunciolaw05_DataOne.j1 (K + 1) true a t c e ns us ts a t c e ns' us' ts' = some true := by
        simp only [nunciolaw05_DataOne.j1]
        rw [if_pos trivial, check_f _ _ _ hr (by omega), Option.bind_some]
        by_cases h : CK a t e ns us ts = 0
        · rw [if_pos h]
        · rw [if_neg h, cplain_f _ _ _ hr (by omega), Option.bind_some, if_neg h]; simp
      by_cases h : CK a t e ns us ts = 0
      · rw [if_pos h, check_f _ _ _ hq (by omega), Option.bind_some]
        by_cases h' : CK a t e ns' us' ts' = 0
        · rw [show (CK a t e ns' us' ts' != 0) = false by simp [h']]
          obtain ⟨_, c2, c3, _⟩ := CK_zero h
          obtain ⟨_, d2, d3, _⟩ := CK_zero h'
          simp only [nunciolaw05_DataOne.j1]
          rw [if_neg (by simp), cplain_f _ _ _ hr (by omega), Option.bind_some, cplain_f _ _ _ hq (by omega), Option.bind_some, same_f _ _ _ hr _ _ _ _ _ _ _ (by omega), Option.bind_some, if_pos h, if_pos h']
          congr 1
          have iff1 : (strOfNums (PL t ns us ts)).toList = (strOfNums (PL t ns' us' ts')).toList ↔ SA a t c e ns us ts a t c e ns' us' ts' := by
            rw [toList_inj]
            constructor
            · intro g
              have g := congrArg bytesOf g
              rw [bytesOf_str (PL_bytes1 _ _ _ _), bytesOf_str (PL_bytes1 _ _ _ _)] at g
              obtain ⟨g1, g2, g3⟩ := PL_inj c2 d2 c3 d3 hr.num hq.num g
              exact ⟨rfl, rfl, rfl, rfl, g1, g2, g3⟩
            · rintro ⟨_, _, _, _, rfl, rfl, rfl⟩; rfl
          by_cases g : SA a t c e ns us ts a t c e ns' us' ts'
          · rw [iff1.2 g, decide_eq_true g]; simp
          · rw [decide_eq_false g]
            have : ((strOfNums (PL t ns us ts)).toList == (strOfNums (PL t ns' us' ts')).toList) = false := by
              rw [beq_eq_false_iff_ne]; exact fun g2 => g (iff1.1 g2)
            rw [this]; rfl
        · rw [show (CK a t e ns' us' ts' != 0) = true by simp [h']]; exact J
      · rw [if_neg h]; exact J
end Go.Proofs.Ytebnbjnkameicaa.Pure
