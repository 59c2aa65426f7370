/- The laws' own helpers: same, play, Few. -/
import Derived.Test.YtjdnimgkfkpaeaaDoorMinex12
import Derived.Test.YtjdnimgkfkpaeaaDoorMinex7
import Derived.Test.YtjdnimgkfkpaeaaDoorMinex10
import Derived.Test.YtjdnimgkfkpaeaaDoorMinex3
import Derived.Test.YtjdnimgkfkpaeaaDoorMinex6
import Derived.Test.YtjdnimgkfkpaeaaDoorMinex8
import Derived.Test.YtjdnimgkfkpaeaaDoorMinex9
import Derived.Test.YtjdnimgkfkpaeaaDoorMinex4
import Derived.Test.YtjdnimgkfkpaeaaDoorLTabA
import Derived.Test.YtjdnimgkfkpaeaaDoorTbM
import Derived.Test.YtjdnimgkfkpaeaaDoorWf
namespace Go.Proofs.YtjdnimgkfkpaeaaDoor.Pure
open Go.RowKit Go.Proofs.YtjdnimgkfkpaeaaDoor.Mine Go.Proofs.YtjdnimgkfkpaeaaDoorW.PrintWords Go.Proofs.YtjdnimgkfkpaeaaDoorW.PrintLast Go.Proofs.YtjdnimgkfkpaeaaDoorW.PrintMore
set_option linter.unusedSimpArgs false
set_option linter.unusedVariables false

theorem awake_t : nunciolaw11_awake.f = some true := tb_awake
theorem rd34_at {l : List S34} {i : Nat} {x : S34} {r : List S34} (h : l.drop i = x :: r) : rd_T34 l (i : Int) = x := by
  have hl : i < l.length := by
    rcases Nat.lt_or_ge i l.length with h1 | h1
    · exact h1
    · rw [List.drop_of_length_le h1] at h; cases h
  rw [List.drop_eq_getElem_cons hl] at h
  injection h with h1 h2
  unfold rd_T34
  rw [Int.toNat_natCast, List.getD_eq_getElem?_getD, List.getElem?_eq_getElem hl, h1]
  rfl
theorem lenA_at {α : Type} {l : List α} {i : Nat} {x : α} {r : List α} (h : l.drop i = x :: r) : i < l.length := by
  rcases Nat.lt_or_ge i l.length with h1 | h1
  · exact h1
  · rw [List.drop_of_length_le h1] at h; cases h
theorem lenA_end {α : Type} {l : List α} {i : Nat} (h : l.drop i = []) : l.length ≤ i := by
  have := congrArg List.length h
  rw [List.length_drop] at this
  simp only [List.length_nil] at this
  omega
theorem mem_at {α : Type} {l : List α} {i : Nat} {x : α} {r : List α} (h : l.drop i = x :: r) : x ∈ l := List.mem_of_mem_drop (h ▸ List.mem_cons_self)
theorem mn_le (a b : Int) : mn a b ≤ a ∧ mn a b ≤ b ∧ (mn a b = a ∨ mn a b = b) := by unfold mn; split <;> omega
theorem few_loop (l : List S34) (hl : (l.length : Int) < 4000000000) : ∀ (r : List S34) (i : Nat) (n : Int), l.drop i = r → 0 ≤ n → n ≤ 20000 → ∃ b, Ev (fun k => nunciolaw11_Few.l0 k l n (i : Int)) b ∧ (b = true → n < 3000 ∧ ∀ x ∈ r, (x.f0.size : Int) + x.f1.size < 3000)
  | [], i, n, h, h0, h1 => by
    have := lenA_end h
    refine ⟨decide (n < 3000), ?_, fun h => ⟨of_decide_eq_true h, fun x hx => by cases hx⟩⟩
    refine Ev.step (fun k => by rw [nunciolaw11_Few.l0]) ?_
    exact ev_neg (by omega) (Ev.now _)
  | x :: r, i, n, h, h0, h1 => by
    have h2 := lenA_at h
    by_cases hn : n < 3000
    · have e1 := mn_le (x.f0.size : Int) 3000
      have e2 := mn_le (x.f1.size : Int) 3000
      obtain ⟨p, hp⟩ : ∃ p, mn (x.f0.size : Int) 3000 = p := ⟨_, rfl⟩
      obtain ⟨q, hq⟩ : ∃ q, mn (x.f1.size : Int) 3000 = q := ⟨_, rfl⟩
      rw [hp] at e1
      rw [hq] at e2
      obtain ⟨b, hb, hb2⟩ := few_loop l hl r (i + 1) (n + p + q) (drop_succ h) (by omega) (by omega)
      refine ⟨b, ?_, fun e => ?_⟩
      · refine Ev.step (fun k => by rw [nunciolaw11_Few.l0]) ?_
        refine ev_pos (by omega) (ev_pos hn (ev_pos (by omega) ?_))
        rw [rd34_at h, hp, hq, w64 (x := n + p) (by omega) (by omega), w64 (x := n + p + q) (by omega) (by omega), w64 (x := (i : Int) + 1) (by omega) (by omega)]
        exact hb
      · obtain ⟨h3, h4⟩ := hb2 e
        refine ⟨hn, fun y hy => ?_⟩
        rcases List.mem_cons.1 hy with rfl | hy
        · omega
        · exact h4 y hy
    · refine ⟨false, ?_, fun h => by cases h⟩
      refine Ev.step (fun k => by rw [nunciolaw11_Few.l0]) ?_
      exact ev_pos (by omega) (ev_neg hn (ev_val (by simp [hn])))
theorem few_ev (l : List S34) (hl : (l.length : Int) < 4000000000000) : ∃ b, Ev (fun k => nunciolaw11_Few.f k l) b ∧ (b = true → ∀ x ∈ l, (x.f0.size : Int) + x.f1.size < 3000) := by
  have e := mn_le (l.length : Int) 3000
  by_cases h : (l.length : Int) < 4000000000
  · obtain ⟨b, hb, h2⟩ := few_loop l h l 0 (mn (l.length : Int) 3000) rfl (by omega) (by omega)
    exact ⟨b, hb, fun e => (h2 e).2⟩
  · have e2 : mn (l.length : Int) 3000 = 3000 := by omega
    refine ⟨false, ?_, fun h => by cases h⟩
    unfold nunciolaw11_Few.f
    rw [e2]
    refine Ev.step (fun k => by rw [nunciolaw11_Few.l0]) ?_
    exact ev_pos (by omega) (ev_neg (by omega) (ev_val (by simp)))
theorem same_loop {n : Nat} {m : M} (h : Ok n m) (hn : n ≤ 100000) : ∀ (d i : Nat), i + d = 61 + m.2.length + 2 → Ev (fun k => nunciolaw11_same.l0 k (F38 ++ m.2) (i : Int) (mkT m) m.1 m.2) (true, mkT m)
  | 0, i, hi => by
    have hl := all_len m
    have h2 := h.2.1
    refine Ev.step (fun k => by rw [nunciolaw11_same.l0]) ?_
    refine ev_neg ?_ (Ev.now _)
    rw [hl, w64 (by omega) (by omega)]
    omega
  | d + 1, i, hi => by
    have hl := all_len m
    have h2 := h.2.1
    refine Ev.step (fun k => by rw [nunciolaw11_same.l0]) ?_
    refine ev_pos ?_ (ev_bind0 (at_f h hn (by omega)) (Ev.bind (rat_ev h hn (by omega)) (ev_pos rfl (ev_pos rfl (ev_neg (by simp) ?_)))))
    · rw [hl, w64 (by omega) (by omega)]
      omega
    · rw [w64 (by omega) (by omega)]
      exact same_loop h hn d (i + 1) (by omega)
theorem same_ev {n : Nat} {m : M} (h : Ok n m) (hn : n ≤ 100000) : Ev (fun k => nunciolaw11_same.f k (mkT m) m.1 m.2) (true, mkT m) := by
  have h2 := h.2.1
  unfold nunciolaw11_same.f
  refine ev_bind0 (most_f m) (ev_pos rfl (ev_bind0 (size_f m) (Ev.bind (rsize_ev h hn) (ev_pos rfl (ev_bind0 (len_f m) ?_)))))
  refine Ev.step (fun k => by rw [nunciolaw11_same.j0]) ?_
  refine ev_neg (by simp) (Ev.bind (all_ev (by omega)) ?_)
  exact same_loop h hn (61 + m.2.length + 2) 0 (by omega)
/-- An act. -/
def pl (m : M) (a : S34) : M := if a.f0.toList = [] ∧ a.f1.toList = [] then rsz m a.f2 else add m a.f0 a.f1
def Act (a : S34) : Prop := (a.f0.size : Int) + a.f1.size < 3000 ∧ a.f2 ≤ 9223372036854775807
theorem act_es {a : S34} (h : Act a) : es ⟨a.f0, a.f1⟩ ≤ 10000 := by have := h.1; unfold es; simp only; omega
theorem ok_pl {n : Nat} {m : M} (h : Ok n m) {a : S34} (ha : Act a) : Ok (n + 1) (pl m a) := by
  unfold pl
  split
  · exact (ok_rsz h ha.2).up (by omega)
  · exact ok_add h (act_es ha)
theorem play_ev {n : Nat} {m : M} (h : Ok n m) (hn : n ≤ 99999) {a : S34} (ha : Act a) : Ev (fun k => nunciolaw11_play.f k (mkT m) m.1 m.2 a.f0 a.f1 a.f2) ((pl m a).1, (pl m a).2, mkT (pl m a)) := by
  unfold nunciolaw11_play.f pl
  by_cases h0 : a.f0.toList = []
  · refine ev_pos h0 ?_
    by_cases h1 : a.f1.toList = []
    · rw [if_pos ⟨h0, h1⟩]
      refine Ev.step (fun k => by rw [nunciolaw11_play.j0]) ?_
      exact ev_pos (by rw [h1]; rfl) (ev_bind0 (resize_f h (by omega) ha.2) (Ev.bind (rresize_ev h (by omega) _) (Ev.now _)))
    · rw [if_neg (fun h => h1 h.2)]
      refine Ev.step (fun k => by rw [nunciolaw11_play.j0]) ?_
      exact ev_neg (fun e => h1 (beq_iff_eq.1 e)) (ev_bind0 (add_f h hn (act_es ha)) (Ev.bind (radd_ev h hn (act_es ha)) (Ev.now _)))
  · refine ev_neg h0 ?_
    rw [if_neg (fun h => h0 h.1)]
    refine Ev.step (fun k => by rw [nunciolaw11_play.j0]) ?_
    exact ev_neg (by simp) (ev_bind0 (add_f h hn (act_es ha)) (Ev.bind (radd_ev h hn (act_es ha)) (Ev.now _)))
theorem acts {l : List S34} (h : ∀ x ∈ l, (x.f0.size : Int) + x.f1.size < 3000) (hw : ∀ x ∈ l, k34_wf x) : ∀ x ∈ l, Act x := fun x hx => ⟨h x hx, (b_i64 (hw x hx).2.2).2⟩
theorem atM_in {m : M} {j : Nat} (h : j < m.2.length) : atM m (62 + (j : Int)) = (m.2[j].f0, m.2[j].f1, true) := by
  unfold atM atF
  have e : (F38 ++ m.2).getD (62 + (j : Int) - 1).toNat z38 = m.2[j] := by
    rw [List.getD_eq_getElem?_getD, List.getElem?_append_right (by rw [F38_len]; omega), F38_len, show (62 + (j : Int) - 1).toNat - 61 = j by omega, List.getElem?_eq_getElem h]
    rfl
  rw [if_pos (by omega), e]
theorem atM_out {m : M} {n : Int} (h : 61 + (m.2.length : Int) < n) : atM m n = ((⟨#[]⟩ : ByteArray), (⟨#[]⟩ : ByteArray), false) := by
  unfold atM atF
  rw [if_neg (by omega)]
theorem kp_id : ∀ (l : List S38) (r : Int), sm l ≤ r → kp r l = l
  | [], _, _ => rfl
  | x :: l, r, h => by
    rw [sm] at h
    have := sm_nonneg l
    rw [kp, if_pos (by omega), kp_id l _ (by omega)]
theorem kp_kp : ∀ (l : List S38) (a b : Int), a ≤ b → kp a (kp b l) = kp a l
  | [], _, _, _ => rfl
  | x :: l, a, b, h => by
    by_cases hb : es x ≤ b
    · rw [kp, if_pos hb, kp, kp]
      by_cases ha : es x ≤ a
      · rw [if_pos ha, if_pos ha, kp_kp l _ _ (by omega)]
      · rw [if_neg ha, if_neg ha]
    · have e1 : kp b (x :: l) = [] := by rw [kp, if_neg hb]
      have e2 : kp a (x :: l) = [] := by rw [kp, if_neg (by omega)]
      rw [e1, e2]
      rfl
theorem kp_max : ∀ (l : List S38) (r : Int), (h : (kp r l).length < l.length) → r < sm (kp r l) + es l[(kp r l).length]
  | [], _, h => absurd h (by simp)
  | x :: l, r, h => by
    by_cases hx : es x ≤ r
    · have e : kp r (x :: l) = x :: kp (r - es x) l := by rw [kp, if_pos hx]
      have h2 : (kp (r - es x) l).length < l.length := by rw [e] at h; simpa using h
      have := kp_max l (r - es x) h2
      have e2 : (x :: l)[(kp r (x :: l)).length] = l[(kp (r - es x) l).length] := by simp only [e, List.length_cons, List.getElem_cons_succ]
      rw [e2, e, sm]
      omega
    · have e : kp r (x :: l) = [] := by rw [kp, if_neg hx]
      have e2 : (x :: l)[(kp r (x :: l)).length] = x := by simp only [e, List.length_nil, List.getElem_cons_zero]
      rw [e2, e, sm]
      omega
theorem kp_get {l : List S38} {r : Int} {j : Nat} (h : j < (kp r l).length) : (kp r l)[j] = l[j]'(Nat.lt_of_lt_of_le h (kp_len l r)) := by
  obtain ⟨t, ht⟩ := kp_pre l r
  have h2 : l[j]? = (kp r l)[j]? := by
    conv => lhs; rw [ht]
    rw [List.getElem?_append_left h]
  rw [List.getElem?_eq_getElem h, List.getElem?_eq_getElem (Nat.lt_of_lt_of_le h (kp_len l r))] at h2
  exact (Option.some.inj h2).symm
end Go.Proofs.YtjdnimgkfkpaeaaDoor.Pure
