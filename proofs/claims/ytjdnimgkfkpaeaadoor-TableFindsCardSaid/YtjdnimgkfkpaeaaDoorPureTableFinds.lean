/- Any name and value, and those of all entries, are found where the document finds them: for any acts and any greatest size. -/
import Derived.Test.YtjdnimgkfkpaeaaDoorMinex13
import Derived.Test.YtjdnimgkfkpaeaaDoorLTabP
namespace Go.Proofs.YtjdnimgkfkpaeaaDoor.Pure
open Go.RowKit Go.Proofs.YtjdnimgkfkpaeaaDoor.Mine Go.Proofs.YtjdnimgkfkpaeaaDoorW.PrintWords Go.Proofs.YtjdnimgkfkpaeaaDoorW.PrintLast Go.Proofs.YtjdnimgkfkpaeaaDoorW.PrintMore
set_option linter.unusedVariables false

theorem finds_loop {n : Nat} {m : M} (h : Ok n m) (hn : n ≤ 1000) (v : ByteArray) (l : List S38) (hl : l.length ≤ 1000000) : ∀ (r : List S38) (i : Nat), l.drop i = r → Ev (fun k => nunciolaw11_TableFinds.l1 k v l (i : Int) (mkT m) m.1 m.2) true
  | [], i, hd => by
    have := len_end hd
    refine Ev.step (fun k => by rw [nunciolaw11_TableFinds.l1]) ?_
    exact ev_neg (by omega) (Ev.now _)
  | x :: r, i, hd => by
    have h2 := len_at hd
    refine Ev.step (fun k => by rw [nunciolaw11_TableFinds.l1]) ?_
    refine ev_pos (by omega) (ev_pos (by omega) ?_)
    rw [rd_at hd]
    refine ev_bind0 (find_f h (by omega) _ _) (Ev.bind (rfind_ev h (by omega) _ _) (ev_pos rfl ?_))
    refine Ev.step (fun k => by rw [nunciolaw11_TableFinds.j3]) ?_
    refine ev_neg (by simp) (ev_pos (by omega) (ev_pos (by omega) ?_))
    rw [rd_at hd]
    refine ev_bind0 (find_f h (by omega) _ _) (Ev.bind (rfind_ev h (by omega) _ _) (ev_pos rfl (ev_neg (by simp) ?_)))
    rw [w64 (by omega) (by omega)]
    exact finds_loop h hn v l hl r (i + 1) (drop_succ hd)
theorem finds_acts (l : List S34) (hl : l.length ≤ 100) (ha : ∀ x ∈ l, Act x) (u v : ByteArray) : ∀ (r : List S34) (i : Nat) (m : M), l.drop i = r → Ok i m → i ≤ 100 → Ev (fun k => nunciolaw11_TableFinds.l0 k l u v (i : Int) (mkT m) m.1 m.2) true
  | [], i, m, h, hm, hi => by
    have := lenA_end h
    have h3 := hm.2.1
    have h4 := all_len m
    refine Ev.step (fun k => by rw [nunciolaw11_TableFinds.l0]) ?_
    refine ev_neg (by omega) (Ev.bind (all_ev (by omega)) (ev_pos (by omega) ?_))
    exact finds_loop hm (by omega) v _ (by rw [List.length_append, List.length_singleton]; omega) _ 0 rfl
  | x :: r, i, m, h, hm, hi => by
    have h2 := lenA_at h
    have hx := ha x (mem_at h)
    refine Ev.step (fun k => by rw [nunciolaw11_TableFinds.l0]) ?_
    refine ev_pos (by omega) (ev_pos (by omega) ?_)
    rw [rd34_at h, w64 (by omega) (by omega)]
    exact Ev.bind (play_ev hm (by omega) hx) (finds_acts l hl ha u v r (i + 1) (pl m x) (drop_succ h) (ok_pl hm hx) (by omega))
theorem TableFinds : nunciolaw11_TableFinds.Pure := by
  intro a0 l1 a2 a3 h0 h1 h2 h3
  apply Ev.rounds
  obtain ⟨b, hb, hf⟩ := few_ev l1 (by omega)
  unfold nunciolaw11_TableFinds.f
  refine ev_bind0 awake_t (ev_pos rfl (Ev.bind hb ?_))
  have hend : ∀ x y z w, Ev (fun k => nunciolaw11_TableFinds.j0 k x y z w true) true := by
    intro x y z w
    refine Ev.step (fun k => by rw [nunciolaw11_TableFinds.j0]) ?_
    exact ev_pos rfl (Ev.now _)
  by_cases hbt : b = true
  · refine ev_pos hbt ?_
    by_cases hl : (l1.length : Int) > 100
    · exact ev_pos hl (hend _ _ _ _)
    refine ev_neg hl ?_
    by_cases hs : (a2.size : Int) > 3000
    · exact ev_pos hs (hend _ _ _ _)
    refine ev_neg hs ?_
    by_cases hs3 : (a3.size : Int) > 3000
    · rw [decide_eq_true hs3]
      exact hend _ _ _ _
    · have hok := ok_new a0 (b_i64 h0).2 0
      refine Ev.step (fun k => by rw [nunciolaw11_TableFinds.j0]) ?_
      exact ev_neg (by simp [hs3]) (ev_bind0 (new_f a0) (ev_bind0 (rnew_f a0) (finds_acts l1 (by omega) (acts (hf hbt) h1.2.2) a2 a3 l1 0 (mx a0 0, []) rfl hok (by omega))))
  · exact ev_neg hbt (hend _ _ _ _)
end Go.Proofs.YtjdnimgkfkpaeaaDoor.Pure
