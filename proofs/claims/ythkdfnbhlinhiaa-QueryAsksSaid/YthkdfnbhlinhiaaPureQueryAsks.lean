import Derived.Test.YthkdfnbhlinhiaaMinex31
import Derived.Test.YthkdfnbhlinhiaaMinex24
import Derived.Test.YthkdfnbhlinhiaaMinex29
import Derived.Test.YthkdfnbhlinhiaaMinex30
import Derived.Test.YthkdfnbhlinhiaaMinex23
import Derived.Test.YthkdfnbhlinhiaaMinex22
import Derived.Test.YthkdfnbhlinhiaaLQuery
import Derived.Test.YthkdfnbhlinhiaaLQFew
import Derived.Test.YthkdfnbhlinhiaaLQSame
namespace Go.Proofs.Ythkdfnbhlinhiaa.Pure
open Go.RowKit Go.Proofs.Ythkdfnbhlinhiaa.Mine Go.Proofs.YthkdfnbhlinhiaaW.PrintWords Go.Proofs.YthkdfnbhlinhiaaW.PrintLast Go.Proofs.YthkdfnbhlinhiaaW.PrintMore
set_option linter.unusedSimpArgs false
set_option linter.unusedVariables false

theorem ropcode_f {f : Int} (h0 : 0 ≤ f) (h1 : f ≤ 65535) : nuncioref08_opcode.f f = some (f / 2048 % 16) := by
  unfold nuncioref08_opcode.f
  rw [w64 (x := f) (by omega) (by omega), tdiv_pos _ h0, w64 (by omega) (by omega), tmod_pos _ (by omega)]
theorem rdo_l0 (a f : Int) (q : List S53) (x y l : List S51) (hl : l.length ≤ 1466015503700) (hw : ∀ x ∈ l, k51_wf x) : ∀ (d i : Nat), i + d = l.length → Ev (fun k => nuncioref08_DO.l0 k (i : Int) a f q x y l) (DOf (l.drop i)) := by
  intro d
  induction d with
  | zero =>
    intro i h
    rw [List.drop_eq_nil_of_le (by omega)]
    refine Ev.step (fun k => by rw [nuncioref08_DO.l0]) ?_
    exact ev_neg (by omega) (Ev.now _)
  | succ d ih =>
    intro i h
    have hi : i < l.length := by omega
    have hx := b_u32 (hw _ (List.getElem_mem hi)).2.2.2.1
    rw [List.drop_eq_getElem_cons hi]
    unfold DOf
    refine Ev.step (fun k => by rw [nuncioref08_DO.l0]) ?_
    refine ev_pos (by omega) (ev_pos (by omega) ?_)
    rw [rd51 hi]
    by_cases h1 : l[i].f1 = 41
    · rw [if_pos h1]
      refine ev_pos h1 (ev_val ?_)
      rw [tdiv_pos _ hx.1, Bool.eq_iff_iff]
      simp only [beq_iff_eq, decide_eq_true_eq]
      omega
    · rw [if_neg h1]
      refine ev_neg h1 ?_
      rw [w64 (by omega) (by omega), show (i : Int) + 1 = ((i + 1 : Nat) : Int) by omega]
      exact ih (i + 1) (by omega)
theorem ev_rdo {a f : Int} {q : List S53} {x y z : List S51} (hl : z.length ≤ 1466015503700) (hw : ∀ x ∈ z, k51_wf x) : Ev (fun k => nuncioref08_DO.f k a f q x y z) (DOf z) := by
  unfold nuncioref08_DO.f
  have := rdo_l0 a f q x y z hl hw z.length 0 (by omega)
  rw [List.drop_zero] at this
  exact this
theorem ev_raskj {a f : Int} {q : List S53} {x y z : List S51} : Ev (fun k => nuncioref08_Ask.j0 k true a f q x y z) bad :=
  Ev.step (f := fun _ => some bad) (fun k => by simp [nuncioref08_Ask.j0, bad]) (Ev.now _)
theorem ev_raskj1 {a f : Int} {q : List S53} {x y z : List S51} {n : ByteArray} {t c : Int} : Ev (fun k => nuncioref08_Ask.j1 k true a f q x y z n t c) bad :=
  Ev.step (f := fun _ => some bad) (fun k => by simp [nuncioref08_Ask.j1, bad]) (Ev.now _)
theorem ev_rask {a f : Int} {q : List S53} {x y z : List S51} (h0 : 0 ≤ f) (h1 : f ≤ 65535) (hl : z.length ≤ 1466015503700) (hw : ∀ x ∈ z, k51_wf x) :
    Ev (fun k => nuncioref08_Ask.f k a f q x y z) (ASK f q x y z) := by
  unfold nuncioref08_Ask.f ASK
  by_cases c1 : f < 32768
  · refine ev_bind0 (a := false) (by unfold nuncioref08_qr.f; rw [decide_eq_false (by omega)]) (ev_neg (by simp) (ev_bind0 (ropcode_f h0 h1) ?_))
    by_cases c2 : f / 2048 % 16 = 0
    · refine ev_pos c2 ?_
      by_cases c3 : q.length = 1
      · refine ev_pos (by omega) ?_
        by_cases c4 : x.length + y.length = 0
        · refine ev_neg (by omega) ?_
          rw [decide_eq_false (by omega)]
          refine Ev.step (fun k => by rw [nuncioref08_Ask.j0]) ?_
          refine ev_neg (by simp) (ev_pos (by omega) ?_)
          by_cases c5 : (rd_T53 q 0).f1 = 41
          · rw [if_neg (fun h => absurd c5 h.2.2.2.2.1)]
            exact ev_pos c5 ev_raskj1
          · refine ev_neg c5 (Ev.bind (ev_ris _) ?_)
            by_cases c6 : (LB (rd_T53 q 0).f0).isSome = true
            · rw [if_pos ⟨c1, c2, c3, c4, c5, c6⟩, c6]
              refine Ev.step (fun k => by rw [nuncioref08_Ask.j1]) ?_
              exact ev_neg (by simp) (Ev.bind (ev_rfold _) (Ev.bind (ev_rdo hl hw) (Ev.now _)))
            · rw [if_neg (fun h => c6 h.2.2.2.2.2), Bool.eq_false_iff.2 c6]
              exact ev_raskj1
        · rw [if_neg (fun h => c4 h.2.2.2.1)]
          by_cases c7 : (x.length : Int) > 0
          · exact ev_pos c7 ev_raskj
          · refine ev_neg c7 ?_
            rw [decide_eq_true (by omega)]
            exact ev_raskj
      · rw [if_neg (fun h => c3 h.2.2.1)]
        exact ev_neg (by omega) ev_raskj
    · rw [if_neg (fun h => c2 h.2.1)]
      exact ev_neg c2 ev_raskj
  · rw [if_neg (fun h => c1 h.1)]
    exact ev_bind0 (a := true) (by unfold nuncioref08_qr.f; rw [decide_eq_true (by omega)]) (ev_pos rfl ev_raskj)
theorem ev_rfit (n : ByteArray) (t c : Int) (d : Bool) (id a f : Int) (q : List S53) (x y z : List S51) (h0 : 0 ≤ f) (h1 : f ≤ 65535) : Ev (fun k => nuncioref08_Fits.f k n t c d id a f q x y z) (FIT n t c id a f q) := by
  have hm : Int.tmod (IntKind.u16.wrap (Int.tdiv f 512)) 2 = f / 512 % 2 := by rw [tdiv_pos _ h0, wu16, tmod_pos _ (by omega)]; omega
  unfold nuncioref08_Fits.f FIT
  by_cases c1 : a = id
  · refine ev_pos c1 ?_
    by_cases c2 : 32768 ≤ f
    · refine ev_bind0 (a := true) (by unfold nuncioref08_qr.f; rw [decide_eq_true (by omega)]) (ev_pos rfl ?_)
      by_cases c2b : f / 512 % 2 = 0
      · refine ev_neg (by rw [hm]; omega) (ev_bind0 (ropcode_f h0 h1) ?_)
        by_cases c3 : f / 2048 % 16 = 0
        · refine ev_pos c3 ?_
          by_cases c4 : q.length = 1
          · rw [decide_eq_true (p := a = id ∧ 32768 ≤ f ∧ f / 512 % 2 = 0 ∧ f / 2048 % 16 = 0 ∧ q.length = 1) ⟨c1, c2, c2b, c3, c4⟩]
            refine ev_pos (by omega) (ev_pos (by omega) (Ev.bind (ev_rfold _) ?_))
            by_cases c5 : FO (rd_T53 q 0).f0 = n
            · refine ev_pos (toList_inj.2 c5) ?_
              rw [decide_eq_true c5]
              by_cases c6 : (rd_T53 q 0).f1 = t
              · rw [decide_eq_true c6]
                exact ev_pos c6 (ev_val (by simp only [Bool.true_and]; rfl))
              · rw [decide_eq_false c6]
                exact ev_neg c6 (Ev.now _)
            · rw [decide_eq_false c5]
              exact ev_neg (fun h => c5 (toList_inj.1 h)) (Ev.now _)
          · rw [decide_eq_false (fun h => c4 h.2.2.2.2)]
            exact ev_neg (by omega) (Ev.now _)
        · rw [decide_eq_false (fun h => c3 h.2.2.2.1)]
          exact ev_neg c3 (Ev.now _)
      · rw [decide_eq_false (fun h => c2b h.2.2.1)]
        exact ev_pos (by rw [hm]; omega) (Ev.now _)
    · rw [decide_eq_false (fun h => c2 h.2.1)]
      exact ev_bind0 (a := false) (by unfold nuncioref08_qr.f; rw [decide_eq_false (by omega)]) (ev_neg (by simp) (Ev.now _))
  · rw [decide_eq_false (fun h => c1 h.1)]
    exact ev_neg c1 (Ev.now _)
theorem ad_wf : ∀ r ∈ [(⟨(⟨#[0]⟩ : ByteArray), 41, 65535, 32768, [], [], [(⟨#[]⟩ : ByteArray)]⟩ : S51)], k51_wf r := by
  intro r hr
  obtain rfl := List.mem_singleton.1 hr
  refine ⟨?_, ?_, ?_, ?_, ⟨?_, ?_, ?_⟩, ⟨?_, ?_, ?_⟩, ⟨?_, ?_, ?_⟩⟩ <;> first | decide | simp
theorem qaj (id : Int) (a f : Int) (q : List S53) (x y z : List S51) (n : ByteArray) (t c : Int) (d : Bool) : Ev (fun k => nunciolaw08_QueryAsks.j0 k id true a f q x y z n t c d) true :=
  Ev.step (f := fun _ => some true) (fun k => by simp [nunciolaw08_QueryAsks.j0]) (Ev.now _)
theorem QueryAsks : nunciolaw08_QueryAsks.Pure := by
  intro a f q x y z id n t c d ha hf hq hx hy hz hid hn ht hc
  have hfb := b_u16 hf
  refine Ev.rounds ?_
  unfold nunciolaw08_QueryAsks.f
  refine ev_bind0 (a := true) rfl (ev_pos rfl ?_)
  obtain ⟨b, hb, hb2⟩ := ev_few a f q x y z hx.2.2 hy.2.2 hz.2.2
  refine Ev.bind hb ?_
  cases b with
  | false => exact ev_neg (by simp) (qaj ..)
  | true =>
    obtain ⟨l1, l2, l3, l4⟩ := hb2 rfl
    refine ev_pos rfl ?_
    by_cases c1 : (n.size : Int) > 5000
    · rw [decide_eq_true c1]; exact qaj ..
    rw [decide_eq_false c1]
    refine Ev.step (fun k => by rw [nunciolaw08_QueryAsks.j0]) ?_
    refine ev_neg (by simp) (Ev.bind (ev_ask hfb.1 hfb.2 (by omega) (by omega) (by omega) hz.2.2) (Ev.bind (ev_rask hfb.1 hfb.2 (by omega) hz.2.2) (ev_pos (by simp) (ev_pos rfl ?_))))
    have hm : query_Make.f id n t c d = nuncioref08_Make.f id n t c d := rfl
    obtain ⟨m1, m2, m3, m4, m5, m6, hmk, hs⟩ : ∃ m1 m2 m3 m4 m5 m6, query_Make.f id n t c d = some (m1, m2, m3, m4, m5, m6) ∧ Ev (fun k => nuncioref06_Same.f k m1 m2 m3 m4 m5 m6 m1 m2 m3 m4 m5 m6) true := by
      unfold query_Make.f
      cases d with
      | true => exact ⟨_, _, _, _, _, _, rfl, ev_same _ _ _ _ _ _ (by simp) (by simp) (by simp) (by simp) (by simp) (by simp) ad_wf⟩
      | false => exact ⟨_, _, _, _, _, _, rfl, ev_same _ _ _ _ _ _ (by simp) (by simp) (by simp) (by simp) (by simp) (by simp) (by simp)⟩
    refine ev_bind0 hmk (ev_bind0 (hm ▸ hmk) (Ev.bind hs (ev_pos rfl ?_)))
    refine Ev.bind (ev_fit n t c d id a f q x y z hfb.1 hfb.2) (Ev.bind (ev_rfit n t c d id a f q x y z hfb.1 hfb.2) (ev_pos (by simp) ?_))
    refine Ev.bind (ev_fit _ _ _ _ _ a f q x y z hfb.1 hfb.2) (Ev.bind (ev_rfit _ _ _ _ _ a f q x y z hfb.1 hfb.2) (ev_val (by simp)))
end Go.Proofs.Ythkdfnbhlinhiaa.Pure
