/- Every row of entries and sizes leaves just the document's table: for any acts, any greatest size and any number. -/
import Derived.Test.YtjdnimgkfkpaeaaDoorMinex11
import Derived.Test.YtjdnimgkfkpaeaaDoorLTabP
namespace Go.Proofs.YtjdnimgkfkpaeaaDoor.Pure
open Go.RowKit Go.Proofs.YtjdnimgkfkpaeaaDoor.Mine Go.Proofs.YtjdnimgkfkpaeaaDoorW.PrintWords Go.Proofs.YtjdnimgkfkpaeaaDoorW.PrintLast Go.Proofs.YtjdnimgkfkpaeaaDoorW.PrintMore
set_option linter.unusedVariables false

theorem plays_loop (l : List S34) (hl : l.length ≤ 100) (ha : ∀ x ∈ l, Act x) (n : Int) (hn : n ≤ 9223372036854775807) : ∀ (r : List S34) (i : Nat) (m : M), l.drop i = r → Ok i m → i ≤ 100 → Ev (fun k => nunciolaw11_TablePlays.l0 k l n (i : Int) (mkT m) m.1 m.2) true
  | [], i, m, h, hm, hi => by
    have := lenA_end h
    refine Ev.step (fun k => by rw [nunciolaw11_TablePlays.l0]) ?_
    exact ev_neg (by omega) (ev_bind0 (at_f hm (by omega) hn) (Ev.bind (rat_ev hm (by omega) hn) (ev_pos rfl (ev_pos rfl (ev_val (by simp))))))
  | x :: r, i, m, h, hm, hi => by
    have h2 := lenA_at h
    have hx := ha x (mem_at h)
    have hm2 := ok_pl hm hx
    refine Ev.step (fun k => by rw [nunciolaw11_TablePlays.l0]) ?_
    refine ev_pos (by omega) (ev_pos (by omega) ?_)
    rw [rd34_at h, w64 (by omega) (by omega)]
    exact Ev.bind (play_ev hm (by omega) hx) (Ev.bind (same_ev hm2 (by omega)) (ev_pos rfl (plays_loop l hl ha n hn r (i + 1) (pl m x) (drop_succ h) hm2 (by omega))))
theorem TablePlays : nunciolaw11_TablePlays.Pure := by
  intro a0 l1 a2 h0 h1 h2
  apply Ev.rounds
  obtain ⟨b, hb, hf⟩ := few_ev l1 (by omega)
  unfold nunciolaw11_TablePlays.f
  refine ev_bind0 awake_t (ev_pos rfl (Ev.bind hb ?_))
  by_cases hbt : b = true
  · refine ev_pos hbt ?_
    refine Ev.step (fun k => by rw [nunciolaw11_TablePlays.j0]) ?_
    by_cases hl : (l1.length : Int) > 100
    · exact ev_pos (decide_eq_true hl) (Ev.now _)
    · have hok := ok_new a0 (b_i64 h0).2 0
      refine ev_neg (by simp [hl]) (ev_bind0 (new_f a0) (ev_bind0 (rnew_f a0) (Ev.bind (same_ev hok (by omega)) (ev_pos rfl ?_))))
      exact plays_loop l1 (by omega) (acts (hf hbt) h1.2.2) a2 (b_i64 h2).2 l1 0 (mx a0 0, []) rfl hok (by omega)
  · refine ev_neg hbt ?_
    refine Ev.step (fun k => by rw [nunciolaw11_TablePlays.j0]) ?_
    exact ev_pos rfl (Ev.now _)
end Go.Proofs.YtjdnimgkfkpaeaaDoor.Pure
