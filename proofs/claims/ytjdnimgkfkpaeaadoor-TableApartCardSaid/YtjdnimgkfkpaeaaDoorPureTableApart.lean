/- A copy tells the same and goes its own way: for any acts and any greatest size. -/
import Derived.Test.YtjdnimgkfkpaeaaDoorMinex16
import Derived.Test.YtjdnimgkfkpaeaaDoorLTabP
namespace Go.Proofs.YtjdnimgkfkpaeaaDoor.Pure
open Go.RowKit Go.Proofs.YtjdnimgkfkpaeaaDoor.Mine Go.Proofs.YtjdnimgkfkpaeaaDoorW.PrintWords Go.Proofs.YtjdnimgkfkpaeaaDoorW.PrintLast Go.Proofs.YtjdnimgkfkpaeaaDoorW.PrintMore
set_option linter.unusedVariables false

theorem apart_l2 (l : List S34) (hl : l.length ≤ 50) (ha : ∀ x ∈ l, Act x) {p : M} (hp : Ok 1000 p) : ∀ (r : List S34) (i : Nat) (m : M), l.drop i = r → Ok (1000 + i) m → i ≤ 50 → Ev (fun k => nunciolaw11_TableApart.l2 k l (i : Int) (mkT m) p.1 p.2 (mkT p) m.1 m.2) true
  | [], i, m, h, hm, hi => by
    have := lenA_end h
    refine Ev.step (fun k => by rw [nunciolaw11_TableApart.l2]) ?_
    exact ev_neg (by omega) (Ev.bind (same_ev hp (by omega)) (ev_pos rfl (Ev.bind (same_ev hm (by omega)) (Ev.now _))))
  | x :: r, i, m, h, hm, hi => by
    have h2 := lenA_at h
    have hx := ha x (mem_at h)
    refine Ev.step (fun k => by rw [nunciolaw11_TableApart.l2]) ?_
    refine ev_pos (by omega) (ev_pos (by omega) ?_)
    rw [rd34_at h, w64 (by omega) (by omega)]
    exact Ev.bind (play_ev hm (by omega) hx) (apart_l2 l hl ha hp r (i + 1) (pl m x) (drop_succ h) (ok_pl hm hx) (by omega))
theorem play_p {n n' : Nat} {m p : M} (h : Ok n m) (hn : n ≤ 99999) (h' : Ok n' p) (hn' : n' ≤ 99999) {a : S34} (ha : Act a) : Ev (fun k => nunciolaw11_play.f k (mkT m) p.1 p.2 a.f0 a.f1 a.f2) ((pl p a).1, (pl p a).2, mkT (pl m a)) := by
  unfold nunciolaw11_play.f pl
  by_cases h0 : a.f0.toList = []
  · refine ev_pos h0 ?_
    by_cases h1 : a.f1.toList = []
    · rw [if_pos ⟨h0, h1⟩, if_pos ⟨h0, h1⟩]
      refine Ev.step (fun k => by rw [nunciolaw11_play.j0]) ?_
      exact ev_pos (by rw [h1]; rfl) (ev_bind0 (resize_f h (by omega) ha.2) (Ev.bind (rresize_ev h' (by omega) _) (Ev.now _)))
    · have e3 : ¬ (a.f0.toList = [] ∧ a.f1.toList = []) := fun h => h1 h.2
      rw [if_neg e3, if_neg e3]
      refine Ev.step (fun k => by rw [nunciolaw11_play.j0]) ?_
      exact ev_neg (fun e => h1 (beq_iff_eq.1 e)) (ev_bind0 (add_f h hn (act_es ha)) (Ev.bind (radd_ev h' hn' (act_es ha)) (Ev.now _)))
  · refine ev_neg h0 ?_
    have e3 : ¬ (a.f0.toList = [] ∧ a.f1.toList = []) := fun h => h0 h.1
    rw [if_neg e3, if_neg e3]
    refine Ev.step (fun k => by rw [nunciolaw11_play.j0]) ?_
    exact ev_neg (by simp) (ev_bind0 (add_f h hn (act_es ha)) (Ev.bind (radd_ev h' hn' (act_es ha)) (Ev.now _)))
theorem apart_l1 (l : List S34) (hl : l.length ≤ 50) (ha : ∀ x ∈ l, Act x) {p : M} (hp : Ok 1000 p) : ∀ (r : List S34) (i : Nat) (m : M), l.drop i = r → Ok (1000 + i) m → i ≤ 50 → Ev (fun k => nunciolaw11_TableApart.l1 k l (i : Int) (mkT p) p.1 p.2 (mkT m)) true
  | [], i, m, h, hm, hi => by
    have := lenA_end h
    refine Ev.step (fun k => by rw [nunciolaw11_TableApart.l1]) ?_
    exact ev_neg (by omega) (Ev.bind (same_ev hp (by omega)) (ev_pos rfl (ev_bind0 (copy_f hp (by omega)) (apart_l2 l hl ha hp l 0 p rfl (hp.up (by omega)) (by omega)))))
  | x :: r, i, m, h, hm, hi => by
    have h2 := lenA_at h
    have hx := ha x (mem_at h)
    refine Ev.step (fun k => by rw [nunciolaw11_TableApart.l1]) ?_
    refine ev_pos (by omega) (ev_pos (by omega) ?_)
    rw [rd34_at h, w64 (by omega) (by omega)]
    exact Ev.bind (play_p hm (by omega) hp (by omega) hx) (apart_l1 l hl ha hp r (i + 1) (pl m x) (drop_succ h) (ok_pl hm hx) (by omega))
theorem apart_l0 (l l2 : List S34) (hl : l.length ≤ 50) (ha : ∀ x ∈ l, Act x) (hl2 : l2.length ≤ 50) (ha2 : ∀ x ∈ l2, Act x) : ∀ (r : List S34) (i : Nat) (m : M), l.drop i = r → Ok i m → i ≤ 50 → Ev (fun k => nunciolaw11_TableApart.l0 k l l2 (i : Int) (mkT m) m.1 m.2) true
  | [], i, m, h, hm, hi => by
    have := lenA_end h
    have hp : Ok 1000 m := hm.up (by omega)
    refine Ev.step (fun k => by rw [nunciolaw11_TableApart.l0]) ?_
    exact ev_neg (by omega) (ev_bind0 (copy_f hp (by omega)) (Ev.bind (same_ev hp (by omega)) (ev_pos rfl (apart_l1 l2 hl2 ha2 hp l2 0 m rfl (hp.up (by omega)) (by omega)))))
  | x :: r, i, m, h, hm, hi => by
    have h2 := lenA_at h
    have hx := ha x (mem_at h)
    refine Ev.step (fun k => by rw [nunciolaw11_TableApart.l0]) ?_
    refine ev_pos (by omega) (ev_pos (by omega) ?_)
    rw [rd34_at h, w64 (by omega) (by omega)]
    exact Ev.bind (play_ev hm (by omega) hx) (apart_l0 l l2 hl ha hl2 ha2 r (i + 1) (pl m x) (drop_succ h) (ok_pl hm hx) (by omega))
theorem TableApart : nunciolaw11_TableApart.Pure := by
  intro a0 l1 l2 h0 h1 h2
  apply Ev.rounds
  obtain ⟨b, hb, hf⟩ := few_ev l1 (by omega)
  obtain ⟨c, hc, hg⟩ := few_ev l2 (by omega)
  unfold nunciolaw11_TableApart.f
  have hend : ∀ x y z, Ev (fun k => nunciolaw11_TableApart.j0 k x y z true) true := by
    intro x y z
    refine Ev.step (fun k => by rw [nunciolaw11_TableApart.j0]) ?_
    exact ev_pos rfl (Ev.now _)
  refine ev_bind0 awake_t (ev_pos rfl (Ev.bind hb ?_))
  by_cases hbt : b = true
  · refine ev_pos hbt (Ev.bind hc ?_)
    by_cases hct : c = true
    · refine ev_pos hct ?_
      by_cases hl : (l1.length : Int) > 50
      · exact ev_pos hl (hend _ _ _)
      refine ev_neg hl ?_
      by_cases hl2 : (l2.length : Int) > 50
      · rw [decide_eq_true hl2]
        exact hend _ _ _
      · have hok := ok_new a0 (b_i64 h0).2 0
        refine Ev.step (fun k => by rw [nunciolaw11_TableApart.j0]) ?_
        exact ev_neg (by simp [hl2]) (ev_bind0 (new_f a0) (ev_bind0 (rnew_f a0) (apart_l0 l1 l2 (by omega) (acts (hf hbt) h1.2.2) (by omega) (acts (hg hct) h2.2.2) l1 0 (mx a0 0, []) rfl hok (by omega))))
    · exact ev_neg hct (hend _ _ _)
  · exact ev_neg hbt (hend _ _ _)
end Go.Proofs.YtjdnimgkfkpaeaaDoor.Pure
