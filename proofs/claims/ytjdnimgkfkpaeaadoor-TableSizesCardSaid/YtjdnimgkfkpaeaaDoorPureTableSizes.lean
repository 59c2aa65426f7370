/- A table that is made smaller keeps its youngest entries, as many as have room: for any acts and any sizes. -/
import Derived.Test.YtjdnimgkfkpaeaaDoorMinex17
import Derived.Test.YtjdnimgkfkpaeaaDoorLTabP
namespace Go.Proofs.YtjdnimgkfkpaeaaDoor.Pure
open Go.RowKit Go.Proofs.YtjdnimgkfkpaeaaDoor.Mine Go.Proofs.YtjdnimgkfkpaeaaDoorW.PrintWords Go.Proofs.YtjdnimgkfkpaeaaDoorW.PrintLast Go.Proofs.YtjdnimgkfkpaeaaDoorW.PrintMore
set_option linter.unusedVariables false

theorem mx_ge (a b : Int) : a ≤ mx a b ∧ b ≤ mx a b ∧ (mx a b = a ∨ mx a b = b) := by unfold mx; split <;> omega
/-- The end: each entry that is kept, and the first that isn't. -/
theorem sizes_l1 {n : Nat} {m u v : M} (h : Ok n m) (hu : Ok n u) (hv : Ok n v) (hn : n ≤ 1000) {low : Int} (hlow : low ≤ 9223372036854775807) (hu2 : u.2 = kp (mx low 0) m.2) (hv2 : v.2 = kp (mx low 0) m.2) : ∀ (d i : Nat), i + d = (kp (mx low 0) m.2).length → Ev (fun k => nunciolaw11_TableSizes.l1 k low ((kp (mx low 0) m.2).length : Int) (i : Int) (mkT m) (mkT u) (mkT v)) true
  | 0, i, hi => by
    have h2 := h.2.1
    have hk := kp_len m.2 (mx low 0)
    have hm := mx_ge low 0
    refine Ev.step (fun k => by rw [nunciolaw11_TableSizes.l1]) ?_
    refine ev_neg (by omega) (ev_bind0 (len_f m) ?_)
    by_cases hc : ((kp (mx low 0) m.2).length : Int) < (m.2.length : Int)
    · have hc2 : (kp (mx low 0) m.2).length < m.2.length := by omega
      have hx := kp_max m.2 (mx low 0) hc2
      have he := h.2.2.1 _ (List.getElem_mem hc2)
      have hg := es_ge (m.2[(kp (mx low 0) m.2).length])
      refine ev_pos hc ?_
      have hw : wrap64 (62 + ((kp (mx low 0) m.2).length : Int)) = 62 + ((kp (mx low 0) m.2).length : Int) := w64 (by omega) (by omega)
      rw [hw]
      have ha := at_f h (by omega) (n := 62 + ((kp (mx low 0) m.2).length : Int)) (by omega)
      rw [atM_in hc2] at ha
      refine ev_bind0 ha (ev_bind0 (size_f v) (ev_val ?_))
      rw [hv2]
      generalize m.2[(kp (mx low 0) m.2).length] = x at he hx hg ⊢
      generalize sm (kp (mx low 0) m.2) = s at hx ⊢
      generalize mx low 0 = q at hm hx ⊢
      unfold es at he hx hg
      apply decide_eq_true
      simp only
      rw [w64 (x := q - (x.f0.size : Int)) (by omega) (by omega), w64 (x := q - (x.f0.size : Int) - (x.f1.size : Int)) (by omega) (by omega), w64 (by omega) (by omega)]
      omega
    · exact ev_neg hc (Ev.now _)
  | d + 1, i, hi => by
    have h2 := h.2.1
    have hk := kp_len m.2 (mx low 0)
    have hj : i < (kp (mx low 0) m.2).length := by omega
    have hju : i < u.2.length := by rw [hu2]; exact hj
    have hjv : i < v.2.length := by rw [hv2]; exact hj
    have hjm : i < m.2.length := by omega
    have hw : wrap64 (62 + (i : Int)) = 62 + (i : Int) := w64 (by omega) (by omega)
    have hw1 : wrap64 ((i : Int) + 1) = ((i + 1 : Nat) : Int) := by rw [w64 (by omega) (by omega)]; omega
    have am := at_f h (by omega) (n := 62 + (i : Int)) (by omega)
    have au := at_f hu (by omega) (n := 62 + (i : Int)) (by omega)
    have av := at_f hv (by omega) (n := 62 + (i : Int)) (by omega)
    rw [atM_in hjm] at am
    rw [atM_in hju] at au
    rw [atM_in hjv] at av
    have e1 : u.2[i] = m.2[i] := by
      have := kp_get hj
      rw [← this]
      simp only [hu2]
    have e2 : v.2[i] = m.2[i] := by
      have := kp_get hj
      rw [← this]
      simp only [hv2]
    rw [e1] at au
    rw [e2] at av
    refine Ev.step (fun k => by rw [nunciolaw11_TableSizes.l1]) ?_
    refine ev_pos (by omega) ?_
    rw [hw]
    refine ev_bind0 am (ev_bind0 av (ev_bind0 au (ev_pos rfl (ev_pos rfl (ev_pos rfl (ev_pos rfl ?_))))))
    rw [hw1]
    exact sizes_l1 h hu hv hn hlow hu2 hv2 d (i + 1) (by omega)
theorem sizes_acts (l : List S34) (hl : l.length ≤ 100) (ha : ∀ x ∈ l, Act x) (a b : Int) (h_a : a ≤ 9223372036854775807) (h_b : b ≤ 9223372036854775807) : ∀ (r : List S34) (i : Nat) (m : M), l.drop i = r → Ok i m → i ≤ 100 → Ev (fun k => nunciolaw11_TableSizes.l0 k l a b (i : Int) (mkT m) m.1 m.2) true
  | [], i, m, h, hm, hi => by
    have := lenA_end h
    have h3 := hm.2.1
    have em := mn_le a b
    have ex := mx_ge a b
    obtain ⟨low, hlow⟩ : ∃ q, mn a b = q := ⟨_, rfl⟩
    obtain ⟨high, hhigh⟩ : ∃ q, mx a b = q := ⟨_, rfl⟩
    rw [hlow] at em
    rw [hhigh] at ex
    have hmm : mx low 0 ≤ mx high 0 := by unfold mx; split <;> split <;> omega
    have o1 := ok_rsz hm (x := high) (by omega)
    have o2 := ok_rsz o1 (x := low) (by omega)
    have o3 := ok_rsz hm (x := low) (by omega)
    have o4 := ok_rsz o3 (x := high) (by omega)
    have e2 : (rsz (rsz m high) low).2 = kp (mx low 0) m.2 := kp_kp m.2 _ _ hmm
    have e3 : (rsz m low).2 = kp (mx low 0) m.2 := rfl
    have e4 : (rsz (rsz m low) high).2 = kp (mx low 0) m.2 := kp_id _ _ (Int.le_trans (kp_le m.2 _ (mx_nonneg low)) hmm)
    have hk := kp_len m.2 (mx low 0)
    have hs := kp_le m.2 (mx low 0) (mx_nonneg low)
    refine Ev.step (fun k => by rw [nunciolaw11_TableSizes.l0]) ?_
    rw [hlow, hhigh]
    refine ev_neg (by omega) (ev_bind0 (copy_f hm (by omega)) (ev_bind0 (resize_f hm (by omega) (by omega)) (ev_bind0 (resize_f o1 (by omega) (by omega)) (ev_bind0 (copy_f hm (by omega)) (ev_bind0 (resize_f hm (by omega) (by omega)) (ev_bind0 (len_f (rsz (rsz m high) low)) (ev_bind0 (len_f (rsz m low)) ?_)))))))
    rw [e2, e3]
    refine ev_pos rfl (ev_bind0 (size_f (rsz (rsz m high) low)) (ev_bind0 (size_f (rsz m low)) ?_))
    rw [e2, e3]
    refine ev_pos rfl (ev_bind0 (len_f (rsz m low)) (ev_bind0 (len_f m) ?_))
    rw [e3]
    have hng : ¬ ((((kp (mx low 0) m.2).length : Nat) : Int) > (m.2.length : Int)) := by omega
    refine ev_neg hng (ev_bind0 (size_f (rsz m low)) ?_)
    rw [e3]
    have hdf : decide (sm (kp (mx low 0) m.2) > mx low 0) = false := decide_eq_false (by omega)
    rw [hdf]
    refine Ev.step (fun k => by rw [nunciolaw11_TableSizes.j2]) ?_
    refine ev_neg (by simp) (ev_bind0 (len_f (rsz m low)) (ev_bind0 (resize_f o3 (by omega) (by omega)) (ev_bind0 (len_f (rsz (rsz m low) high)) ?_)))
    rw [e3, e4]
    refine ev_pos rfl ?_
    exact sizes_l1 hm o2 o4 (by omega) (by omega) e2 e4 (kp (mx low 0) m.2).length 0 (by omega)
  | x :: r, i, m, h, hm, hi => by
    have h2 := lenA_at h
    have hx := ha x (mem_at h)
    refine Ev.step (fun k => by rw [nunciolaw11_TableSizes.l0]) ?_
    refine ev_pos (by omega) (ev_pos (by omega) ?_)
    rw [rd34_at h, w64 (by omega) (by omega)]
    exact Ev.bind (play_ev hm (by omega) hx) (sizes_acts l hl ha a b h_a h_b r (i + 1) (pl m x) (drop_succ h) (ok_pl hm hx) (by omega))
theorem TableSizes : nunciolaw11_TableSizes.Pure := by
  intro a0 l1 a2 a3 h0 h1 h2 h3
  apply Ev.rounds
  obtain ⟨b, hb, hf⟩ := few_ev l1 (by omega)
  unfold nunciolaw11_TableSizes.f
  refine ev_bind0 awake_t (ev_pos rfl (Ev.bind hb ?_))
  by_cases hbt : b = true
  · refine ev_pos hbt ?_
    refine Ev.step (fun k => by rw [nunciolaw11_TableSizes.j0]) ?_
    by_cases hl : (l1.length : Int) > 100
    · exact ev_pos (decide_eq_true hl) (Ev.now _)
    · have hok := ok_new a0 (b_i64 h0).2 0
      refine ev_neg (by simp [hl]) (ev_bind0 (new_f a0) (ev_bind0 (rnew_f a0) ?_))
      exact sizes_acts l1 (by omega) (acts (hf hbt) h1.2.2) a2 a3 (b_i64 h2).2 (b_i64 h3).2 l1 0 (mx a0 0, []) rfl hok (by omega)
  · refine ev_neg hbt ?_
    refine Ev.step (fun k => by rw [nunciolaw11_TableSizes.j0]) ?_
    exact ev_pos rfl (Ev.now _)
end Go.Proofs.YtjdnimgkfkpaeaaDoor.Pure
