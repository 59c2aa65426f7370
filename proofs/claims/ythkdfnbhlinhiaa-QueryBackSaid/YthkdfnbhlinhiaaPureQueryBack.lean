import Derived.Test.YthkdfnbhlinhiaaMinex41
import Derived.Test.YthkdfnbhlinhiaaMinex8
import Derived.Test.YthkdfnbhlinhiaaMinex7
import Derived.Test.YthkdfnbhlinhiaaMinex9
import Derived.Test.YthkdfnbhlinhiaaLQuery
namespace Go.Proofs.Ythkdfnbhlinhiaa.Pure
open Go.RowKit Go.Proofs.Ythkdfnbhlinhiaa.Mine Go.Proofs.YthkdfnbhlinhiaaW.PrintWords Go.Proofs.YthkdfnbhlinhiaaW.PrintLast Go.Proofs.YthkdfnbhlinhiaaW.PrintMore
set_option linter.unusedSimpArgs false
set_option linter.unusedVariables false

theorem qbj (id no f : Int) (n : ByteArray) (t c : Int) (d : Bool) (n' : ByteArray) (t' c' : Int) (d' : Bool) : Ev (fun k => nunciolaw08_QueryBack.j0 k id no f true n t c d n' t' c' d') true :=
  Ev.step (f := fun _ => some true) (fun k => by simp [nunciolaw08_QueryBack.j0]) (Ev.now _)
theorem QueryBack : nunciolaw08_QueryBack.Pure := by
  intro n t c d n' t' c' d' id no g hn ht hc hn' ht' hc' hid hno hg
  have hgb := b_u16 hg
  refine Ev.rounds ?_
  unfold nunciolaw08_QueryBack.f
  refine ev_bind0 (a := true) rfl (ev_pos rfl (Ev.bind (ev_ris n) ?_))
  by_cases c1 : (LB n).isSome = true
  · refine ev_pos c1 (Ev.bind (ev_rfold n) ?_)
    by_cases c2 : FO n = n
    · refine ev_pos (toList_inj.2 c2) ?_
      by_cases c3 : t = 41
      · exact ev_pos c3 (qbj ..)
      refine ev_neg c3 ?_
      by_cases c4 : (n'.size : Int) > 5000
      · rw [decide_eq_true c4]; exact qbj ..
      rw [decide_eq_false c4]
      refine Ev.step (fun k => by rw [nunciolaw08_QueryBack.j0]) ?_
      refine ev_neg (by simp) ?_
      obtain ⟨ad, hmk, hdo, hla, hwf⟩ : ∃ ad, query_Make.f id n t c d = some (id, 256, [(⟨n, t, c⟩ : S53)], [], [], ad) ∧ DOf ad = d ∧ ad.length ≤ 1 ∧ ∀ x ∈ ad, k51_wf x := by
        cases d with
        | true =>
          refine ⟨_, rfl, by decide, by simp, ?_⟩
          intro r hr
          obtain rfl := List.mem_singleton.1 hr
          refine ⟨?_, ?_, ?_, ?_, ⟨?_, ?_, ?_⟩, ⟨?_, ?_, ?_⟩, ⟨?_, ?_, ?_⟩⟩ <;> first | decide | simp
        | false => exact ⟨_, rfl, rfl, by simp, by simp⟩
      have hask : Ev (fun k => query_Ask.f k id 256 [(⟨n, t, c⟩ : S53)] [] [] ad) (n, t, c, d, 0) := by
        have := ev_ask (a := id) (f := 256) (q := [(⟨n, t, c⟩ : S53)]) (x := []) (y := []) (z := ad) (by omega) (by omega) (by simp) (by simp) (by omega) hwf
        unfold ASK at this
        rw [show rd_T53 [(⟨n, t, c⟩ : S53)] 0 = ⟨n, t, c⟩ from rfl, if_pos ⟨by omega, by omega, rfl, rfl, c3, c1⟩, hdo] at this
        simp only [c2] at this
        exact this
      have hF : IntKind.u16.wrap (32768 + (Int.tmod g 512)) = 32768 + g % 512 := by rw [wu16, tmod_pos _ hgb.1]; omega
      have hfit : ∀ (N : ByteArray) (T C i : Int), Ev (fun k => query_Fits.f k N T C d i id (32768 + g % 512) [(⟨n, t, c⟩ : S53)] [] [] ad) (decide (id = i) && (decide (n = N) && (decide (t = T) && decide (c = C)))) := by
        intro N T C i
        have := ev_fit N T C d i id (32768 + g % 512) [(⟨n, t, c⟩ : S53)] [] [] ad (by omega) (by omega)
        unfold FIT at this
        rw [show rd_T53 [(⟨n, t, c⟩ : S53)] 0 = ⟨n, t, c⟩ from rfl] at this
        simp only [c2] at this
        have e : decide (id = i ∧ 32768 ≤ 32768 + g % 512 ∧ (32768 + g % 512) / 512 % 2 = 0 ∧ (32768 + g % 512) / 2048 % 16 = 0 ∧ [(⟨n, t, c⟩ : S53)].length = 1) = decide (id = i) := by
          rw [Bool.eq_iff_iff, decide_eq_true_iff, decide_eq_true_iff]
          exact ⟨fun h => h.1, fun h => ⟨h, by omega, by omega, by omega, rfl⟩⟩
        rw [e] at this
        exact this
      have hfm : Ev (fun k => query_Fits.f k n t c d id id 256 [(⟨n, t, c⟩ : S53)] [] [] ad) false := by
        have := ev_fit n t c d id id 256 [(⟨n, t, c⟩ : S53)] [] [] ad (by omega) (by omega)
        unfold FIT at this
        rw [decide_eq_false (fun h => absurd h.2.1 (by omega))] at this
        exact this
      refine ev_bind0 hmk (Ev.bind hask (ev_pos rfl (ev_neg (by simp) ?_)))
      rw [show ((id, 256, [(⟨n, t, c⟩ : S53)], ([] : List S51), ([] : List S51), ad).1 != id) = false by simp]
      refine Ev.step (fun k => by rw [nunciolaw08_QueryBack.j1]) ?_
      rw [hF]
      refine ev_neg (by simp) (Ev.bind (hfit n t c id) (ev_pos (by simp) (Ev.bind (hfit n t c no) (ev_pos ?_ (Ev.bind (hfit n' t' c' id) (ev_pos ?_ (Ev.bind hfm (ev_val rfl))))))))
      · simp only [decide_true, Bool.and_true, beq_iff_eq]
        rw [Bool.eq_iff_iff, decide_eq_true_iff, beq_iff_eq]
        exact ⟨fun h => h.symm, fun h => h.symm⟩
      · simp only [beq_dec, decide_true, Bool.true_and, beq_iff_eq]
        rw [Bool.eq_iff_iff]
        simp only [Bool.and_eq_true, decide_eq_true_iff, beq_iff_eq]
        exact ⟨fun h => ⟨h.1.symm, h.2.1.symm, h.2.2.symm⟩, fun h => ⟨h.1.symm, h.2.1.symm, h.2.2.symm⟩⟩
    · exact ev_neg (fun h => c2 (toList_inj.1 h)) (qbj ..)
  · exact ev_neg c1 (qbj ..)
end Go.Proofs.Ythkdfnbhlinhiaa.Pure
