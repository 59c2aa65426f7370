/- The size is never above the greatest; what was added last is the first entry, or there is none: for any acts and any greatest size. -/
import Derived.Test.YtjdnimgkfkpaeaaDoorMinex14
import Derived.Test.YtjdnimgkfkpaeaaDoorLTabP
namespace Go.Proofs.YtjdnimgkfkpaeaaDoor.Pure
open Go.RowKit Go.Proofs.YtjdnimgkfkpaeaaDoor.Mine Go.Proofs.YtjdnimgkfkpaeaaDoorW.PrintWords Go.Proofs.YtjdnimgkfkpaeaaDoorW.PrintLast Go.Proofs.YtjdnimgkfkpaeaaDoorW.PrintMore
set_option linter.unusedVariables false

/-- The sum of the sizes, entry by entry. -/
theorem holds_l1 {n : Nat} {m : M} (h : Ok n m) (hn : n ≤ 1000) (l : List S34) (i : Int) (hnext : Ev (fun k => nunciolaw11_TableHolds.l0 k l (wrap64 (i + 1)) (mkT m)) true) : ∀ (r : List S38) (j : Nat) (s : Int), m.2.drop j = r → 0 ≤ s → s + sm r = sm m.2 → Ev (fun k => nunciolaw11_TableHolds.l1 k l i s (j : Int) (mkT m)) true
  | [], j, s, hd, h0, hs => by
    have := len_end hd
    have h1 := h.2.2.2
    have h2 := h.1
    rw [sm, Int.add_zero] at hs
    refine Ev.step (fun k => by rw [nunciolaw11_TableHolds.l1]) ?_
    exact ev_bind0 (len_f m) (ev_neg (by simp only; omega) (ev_bind0 (size_f m) (ev_pos hs (ev_bind0 (most_f m) (ev_neg (by simp only; omega) (ev_bind0 (most_f m) (ev_neg (by simp only; omega) hnext)))))))
  | x :: r, j, s, hd, h0, hs => by
    have h1 := len_at hd
    have h2 := h.2.1
    have h3 := sm_nonneg r
    have h5 := sm_le m.2 h.2.2.1
    have h6 := es_ge x
    have h7 : es x = (x.f0.size : Int) + x.f1.size + 32 := rfl
    have hx : m.2[j] = x := by
      rw [List.drop_eq_getElem_cons h1] at hd
      injection hd
    rw [sm] at hs
    have hw : wrap64 (62 + (j : Int)) = 62 + (j : Int) := w64 (by omega) (by omega)
    have ha := at_f h (by omega) (n := 62 + (j : Int)) (by omega)
    rw [atM_in h1, hx] at ha
    have ih := holds_l1 h hn l i hnext r (j + 1) (s + es x) (drop_succ hd) (by omega) (by omega)
    refine Ev.step (fun k => by rw [nunciolaw11_TableHolds.l1]) ?_
    refine ev_bind0 (len_f m) (ev_pos (by simp only; omega) ?_)
    rw [hw]
    refine ev_bind0 ha (ev_pos rfl ?_)
    simp only
    rw [w64 (x := s + (x.f0.size : Int)) (by omega) (by omega), w64 (x := s + (x.f0.size : Int) + (x.f1.size : Int)) (by omega) (by omega), w64 (x := s + (x.f0.size : Int) + (x.f1.size : Int) + 32) (by omega) (by omega), w64 (x := (j : Int) + 1) (by omega) (by omega)]
    rw [show s + (x.f0.size : Int) + (x.f1.size : Int) + 32 = s + es x by omega]
    exact ih
theorem holds_j4 {n : Nat} {m : M} (h : Ok n m) (hn : n ≤ 1000) (l : List S34) (i : Int) (hnext : Ev (fun k => nunciolaw11_TableHolds.l0 k l (wrap64 (i + 1)) (mkT m)) true) : Ev (fun k => nunciolaw11_TableHolds.j4 k l i (mkT m)) true := by
  refine Ev.step (fun k => by rw [nunciolaw11_TableHolds.j4]) ?_
  exact holds_l1 h hn l i hnext m.2 0 0 rfl (by omega) (by omega)
/-- The second entry was the first, if there was one. -/
theorem holds_j3 {n : Nat} {m : M} (h : Ok n m) (hn : n ≤ 900) {a b : ByteArray} (he : es ⟨a, b⟩ ≤ 10000) (l : List S34) (i : Int) (hnext : Ev (fun k => nunciolaw11_TableHolds.l0 k l (wrap64 (i + 1)) (mkT (add m a b))) true) : Ev (fun k => nunciolaw11_TableHolds.j3 k l i (atM m 62).1 (atM m 62).2.1 (atM m 62).2.2 (m.2.length : Int) false (mkT (add m a b))) true := by
  have hm := ok_add h he
  have h2 := h.2.1
  have hl : (add m a b).2.length ≤ m.2.length + 1 := kp_len (⟨a, b⟩ :: m.2) m.1
  have hw : wrap64 ((m.2.length : Int) + 1) = (m.2.length : Int) + 1 := w64 (by omega) (by omega)
  have hj := holds_j4 hm (by omega) l i hnext
  refine Ev.step (fun k => by rw [nunciolaw11_TableHolds.j3]) ?_
  refine ev_neg (by simp) ?_
  by_cases h1 : 1 < (add m a b).2.length
  · have ha := at_f hm (by omega) (n := 62 + ((1 : Nat) : Int)) (by omega)
    rw [atM_in h1] at ha
    have hc : es ⟨a, b⟩ ≤ m.1 := by
      by_cases hc : es ⟨a, b⟩ ≤ m.1
      · exact hc
      · have : (add m a b).2 = [] := by unfold add; simp only [kp, if_neg hc]
        rw [this] at h1
        simp at h1
    have e1 : (add m a b).2 = ⟨a, b⟩ :: kp (m.1 - es ⟨a, b⟩) m.2 := by unfold add; simp only [kp, if_pos hc]
    have h3 : 0 < (kp (m.1 - es ⟨a, b⟩) m.2).length := by rw [e1, List.length_cons] at h1; omega
    have h4 : 0 < m.2.length := Nat.lt_of_lt_of_le h3 (kp_len _ _)
    have e2 : (add m a b).2[1] = m.2[0] := by
      have e3 : (add m a b).2[1] = (kp (m.1 - es ⟨a, b⟩) m.2)[0] := by simp only [e1, List.getElem_cons_succ]
      rw [e3, kp_get h3]
    rw [e2] at ha
    have e4 : atM m 62 = (m.2[0].f0, m.2[0].f1, true) := atM_in (j := 0) h4
    rw [e4]
    refine ev_bind0 ha (ev_pos rfl (ev_pos rfl (ev_pos rfl (ev_pos rfl (ev_bind0 (len_f _) ?_)))))
    rw [hw]
    exact ev_neg (by simp only; omega) hj
  · have ha := at_f hm (by omega) (n := 63) (by omega)
    rw [atM_out (by omega)] at ha
    refine ev_bind0 ha (ev_neg (by simp) (ev_bind0 (len_f _) ?_))
    rw [hw]
    exact ev_neg (by simp only; omega) hj
theorem holds_l0 (l : List S34) (hl : l.length ≤ 100) (ha : ∀ x ∈ l, Act x) : ∀ (r : List S34) (i : Nat) (m : M), l.drop i = r → Ok i m → i ≤ 100 → Ev (fun k => nunciolaw11_TableHolds.l0 k l (i : Int) (mkT m)) true
  | [], i, m, h, hm, hi => by
    have := lenA_end h
    refine Ev.step (fun k => by rw [nunciolaw11_TableHolds.l0]) ?_
    exact ev_neg (by omega) (Ev.now _)
  | x :: r, i, m, h, hm, hi => by
    have h2 := lenA_at h
    have hx := ha x (mem_at h)
    have he := act_es hx
    have hm3 := hm.2.1
    have hw : wrap64 ((i : Int) + 1) = ((i + 1 : Nat) : Int) := by rw [w64 (by omega) (by omega)]; omega
    have ih := fun m' (h' : Ok (i + 1) m') => holds_l0 l hl ha r (i + 1) m' (drop_succ h) h' (by omega)
    have hadd : ¬ (x.f0.toList = [] ∧ x.f1.toList = []) → Ev (fun k => nunciolaw11_TableHolds.j2 k l (i : Int) (atM m 62).1 (atM m 62).2.1 (atM m 62).2.2 (m.2.length : Int) false (mkT m) x.f0 x.f1 x.f2) true := by
      intro _
      have hm2 := ok_add hm he
      have hj3 := holds_j3 hm (by omega) he l (i : Int) (by rw [hw]; exact ih _ hm2)
      have hz : wrap64 ((x.f0.size : Int) + (x.f1.size : Int)) = (x.f0.size : Int) + (x.f1.size : Int) := w64 (by omega) (by have := hx.1; omega)
      have hq : wrap64 (m.1 - 32) = m.1 - 32 := w64 (by have := hm.1; omega) (by have := hm.1; omega)
      have hes : es ⟨x.f0, x.f1⟩ = (x.f0.size : Int) + x.f1.size + 32 := rfl
      refine Ev.step (fun k => by rw [nunciolaw11_TableHolds.j2]) ?_
      refine ev_neg (by simp) (ev_bind0 (add_f hm (by omega) he) ?_)
      by_cases hc : es ⟨x.f0, x.f1⟩ ≤ m.1
      · have e1 : (add m x.f0 x.f1).2 = ⟨x.f0, x.f1⟩ :: kp (m.1 - es ⟨x.f0, x.f1⟩) m.2 := by unfold add; simp only [kp, if_pos hc]
        have h3 : 0 < (add m x.f0 x.f1).2.length := by rw [e1, List.length_cons]; omega
        have hat := at_f hm2 (by omega) (n := 62 + ((0 : Nat) : Int)) (by omega)
        rw [atM_in h3] at hat
        have e2 : (add m x.f0 x.f1).2[0] = ⟨x.f0, x.f1⟩ := by simp only [e1, List.getElem_cons_zero]
        rw [e2] at hat
        refine ev_bind0 hat (ev_bind0 (len_f _) ?_)
        have hd : decide (((add m x.f0 x.f1).2.length : Int) > 0) = true := decide_eq_true (by omega)
        simp only
        rw [hd]
        refine ev_neg (by simp) (ev_pos (by first | rfl | trivial) (ev_pos (by first | rfl | trivial) (ev_pos (by first | rfl | trivial) (ev_bind0 (most_f _) ?_))))
        have hd2 : decide (wrap64 ((x.f0.size : Int) + (x.f1.size : Int)) ≤ wrap64 ((add m x.f0 x.f1).1 - 32)) = true := by
          show decide (wrap64 ((x.f0.size : Int) + (x.f1.size : Int)) ≤ wrap64 (m.1 - 32)) = true
          rw [hz, hq]
          exact decide_eq_true (by omega)
        simp only
        rw [hd2]
        exact hj3
      · have e1 : (add m x.f0 x.f1).2 = [] := by unfold add; simp only [kp, if_neg hc]
        have hat := at_f hm2 (by omega) (n := 62) (by omega)
        rw [atM_out (by rw [e1]; simp)] at hat
        refine ev_bind0 hat (ev_bind0 (len_f _) ?_)
        have hd : decide (((add m x.f0 x.f1).2.length : Int) > 0) = false := decide_eq_false (by rw [e1]; simp)
        simp only
        rw [hd]
        refine ev_neg (by simp) (ev_neg (by simp) (ev_bind0 (most_f _) ?_))
        have hd2 : decide (wrap64 ((x.f0.size : Int) + (x.f1.size : Int)) ≤ wrap64 ((add m x.f0 x.f1).1 - 32)) = false := by
          show decide (wrap64 ((x.f0.size : Int) + (x.f1.size : Int)) ≤ wrap64 (m.1 - 32)) = false
          rw [hz, hq]
          exact decide_eq_false (by omega)
        simp only
        rw [hd2]
        exact hj3
    refine Ev.step (fun k => by rw [nunciolaw11_TableHolds.l0]) ?_
    refine ev_pos (by omega) (ev_pos (by omega) ?_)
    rw [rd34_at h]
    refine ev_bind0 (at_f hm (by omega) (by omega)) (ev_bind0 (len_f m) ?_)
    by_cases h0 : x.f0.toList = []
    · refine ev_pos h0 ?_
      by_cases h1 : x.f1.toList = []
      · have hb : (x.f1.toList == ([] : List UInt8)) = true := beq_iff_eq.2 h1
        simp only
        rw [hb]
        refine Ev.step (fun k => by rw [nunciolaw11_TableHolds.j2]) ?_
        refine ev_pos rfl (ev_bind0 (resize_f hm (by omega) hx.2) ?_)
        have hm2 := ok_rsz hm hx.2
        exact holds_j4 hm2 (by omega) l (i : Int) (by rw [hw]; exact ih _ (hm2.up (by omega)))
      · have hb : (x.f1.toList == ([] : List UInt8)) = false := beq_eq_false_iff_ne.2 h1
        simp only
        rw [hb]
        exact hadd (fun h => h1 h.2)
    · exact ev_neg h0 (hadd (fun h => h0 h.1))
theorem TableHolds : nunciolaw11_TableHolds.Pure := by
  intro a0 l1 h0 h1
  apply Ev.rounds
  obtain ⟨b, hb, hf⟩ := few_ev l1 (by omega)
  unfold nunciolaw11_TableHolds.f
  refine ev_bind0 awake_t (ev_pos rfl (Ev.bind hb ?_))
  by_cases hbt : b = true
  · refine ev_pos hbt ?_
    refine Ev.step (fun k => by rw [nunciolaw11_TableHolds.j0]) ?_
    by_cases hl : (l1.length : Int) > 100
    · exact ev_pos (decide_eq_true hl) (Ev.now _)
    · refine ev_neg (by simp [hl]) (ev_bind0 (new_f a0) ?_)
      exact holds_l0 l1 (by omega) (acts (hf hbt) h1.2.2) l1 0 (mx a0 0, []) rfl (ok_new a0 (b_i64 h0).2 0) (by omega)
  · refine ev_neg hbt ?_
    refine Ev.step (fun k => by rw [nunciolaw11_TableHolds.j0]) ?_
    exact ev_pos rfl (Ev.now _)
end Go.Proofs.YtjdnimgkfkpaeaaDoor.Pure
