import Derived.Test.YthkdfnbhlinhiaaMinex44
import Derived.Test.YthkdfnbhlinhiaaMinex8
import Derived.Test.YthkdfnbhlinhiaaMinex16
import Derived.Test.YthkdfnbhlinhiaaMinex15
import Derived.Test.YthkdfnbhlinhiaaMinex14
import Derived.Test.YthkdfnbhlinhiaaMinex10
import Derived.Test.YthkdfnbhlinhiaaMinex11
import Derived.Test.YthkdfnbhlinhiaaMinex12
import Derived.Test.YthkdfnbhlinhiaaLQSame
namespace Go.Proofs.Ythkdfnbhlinhiaa.Pure
open Go.RowKit Go.Proofs.Ythkdfnbhlinhiaa.Mine Go.Proofs.YthkdfnbhlinhiaaW.PrintWords Go.Proofs.YthkdfnbhlinhiaaW.PrintLast Go.Proofs.YthkdfnbhlinhiaaW.PrintMore
set_option linter.unusedSimpArgs false
set_option linter.unusedVariables false

theorem qfj (id : Int) (n : ByteArray) (t c : Int) (d : Bool) : Ev (fun k => nunciolaw08_QueryFails.j0 k id true n t c d) true :=
  Ev.step (f := fun _ => some true) (fun k => by simp [nunciolaw08_QueryFails.j0]) (Ev.now _)
theorem QueryFails : nunciolaw08_QueryFails.Pure := by
  intro n t c d id hn ht hc hid
  refine Ev.rounds ?_
  unfold nunciolaw08_QueryFails.f
  refine ev_bind0 (a := true) rfl (ev_pos rfl (Ev.bind (ev_ris n) ?_))
  by_cases c1 : (LB n).isSome = true
  · refine ev_pos c1 (Ev.bind (ev_rfold n) ?_)
    by_cases c2 : FO n = n
    · refine ev_pos (toList_inj.2 c2) ?_
      by_cases c3 : t = 41
      · rw [show (t == 41) = true from beq_iff_eq.2 c3]; exact qfj ..
      rw [show (t == 41) = false from beq_eq_false_iff_ne.2 c3]
      refine Ev.step (fun k => by rw [nunciolaw08_QueryFails.j0]) ?_
      refine ev_neg (by simp) ?_
      obtain ⟨ad, hmk⟩ : ∃ ad, query_Make.f id n t c d = some (id, 256, [(⟨n, t, c⟩ : S53)], [], [], ad) := by cases d <;> exact ⟨_, rfl⟩
      have hfl : query_Fail.f id id 256 [(⟨n, t, c⟩ : S53)] [] [] ad = some (id, 33154, [(⟨n, t, c⟩ : S53)], [], [], []) := by
        unfold query_Fail.f api_Question.f
        rw [if_pos (by simp), Option.bind_some, show Go.bits .or .u16 (Go.bits .or .u16 32896 (Go.bits .and .u16 256 256)) 2 = 33154 by decide]
      have hask : Ev (fun k => query_Ask.f k id 33154 [(⟨n, t, c⟩ : S53)] [] [] []) bad := by
        have := ev_ask (a := id) (f := 33154) (q := [(⟨n, t, c⟩ : S53)]) (x := []) (y := []) (z := []) (by omega) (by omega) (by simp) (by simp) (by simp) (by simp)
        unfold ASK at this
        rw [if_neg (by omega)] at this
        exact this
      have hfit : Ev (fun k => query_Fits.f k n t c d id id 33154 [(⟨n, t, c⟩ : S53)] [] [] []) true := by
        have := ev_fit n t c d id id 33154 [(⟨n, t, c⟩ : S53)] [] [] [] (by omega) (by omega)
        have e : FIT n t c id id 33154 [(⟨n, t, c⟩ : S53)] = true := by
          unfold FIT
          rw [show rd_T53 [(⟨n, t, c⟩ : S53)] 0 = ⟨n, t, c⟩ from rfl]
          simp [c2]
        rw [e] at this
        exact this
      have hneg : query_Negative.f id 33154 [(⟨n, t, c⟩ : S53)] [] [] [] = some false := by
        unfold query_Negative.f
        rw [and15 (by omega) (by omega)]
        rfl
      have hle : query_Least.f id 33154 [(⟨n, t, c⟩ : S53)] [] [] [] = some 0 := by
        unfold query_Least.f
        rw [hneg]
        rfl
      have hag : Ev (fun k => query_Age.f k id 33154 [(⟨n, t, c⟩ : S53)] [] [] [] 9) (id, 33154, [(⟨n, t, c⟩ : S53)], [], [], []) := by
        have ha : Ev (fun k => query_aged.f k [] 9) [] := by
          unfold query_aged.f
          refine Ev.step (fun k => by rw [query_aged.l0]) ?_
          exact ev_neg (by simp) (Ev.now _)
        unfold query_Age.f api_Question.f
        exact ev_bind0 (a := [(⟨n, t, c⟩ : S53)]) (by rw [if_pos (by simp)]) (Ev.bind ha (Ev.bind ha (Ev.bind ha (Ev.now _))))
      refine ev_bind0 hmk (ev_bind0 hfl (Ev.bind hask (Ev.bind hfit (ev_pos rfl (ev_bind0 hneg (ev_neg (by simp) (ev_bind0 hle (ev_pos rfl (ev_pos rfl (ev_pos rfl (Ev.bind hag ?_)))))))))))
      exact Ev.bind (ev_same _ _ _ _ _ _ (by simp) (by simp) (by simp) (by simp) (by simp) (by simp) (by simp)) (Ev.now _)
    · exact ev_neg (fun h => c2 (toList_inj.1 h)) (qfj ..)
  · exact ev_neg c1 (qfj ..)
end Go.Proofs.Ythkdfnbhlinhiaa.Pure
