import Derived.Test.YthkdfnbhlinhiaaMinex43
import Derived.Test.YthkdfnbhlinhiaaMinex15
import Derived.Test.YthkdfnbhlinhiaaMinex14
import Derived.Test.YthkdfnbhlinhiaaMinex10
import Derived.Test.YthkdfnbhlinhiaaMinex11
import Derived.Test.YthkdfnbhlinhiaaMinex12
import Derived.Test.YthkdfnbhlinhiaaMinex13
import Derived.Test.YthkdfnbhlinhiaaMinex42
import Derived.Test.YthkdfnbhlinhiaaLQFew
import Derived.Test.YthkdfnbhlinhiaaLQSame
namespace Go.Proofs.Ythkdfnbhlinhiaa.Pure
open Go.RowKit Go.Proofs.Ythkdfnbhlinhiaa.Mine Go.Proofs.YthkdfnbhlinhiaaW.PrintWords Go.Proofs.YthkdfnbhlinhiaaW.PrintLast Go.Proofs.YthkdfnbhlinhiaaW.PrintMore
set_option linter.unusedSimpArgs false
set_option linter.unusedVariables false

/-! ### ageing -/
def ph (s v : Int) : Int := v - mn s v
theorem ph_eq {s v : Int} (hs : 0 ≤ s) (hv : 0 ≤ v) : (v ≤ s → ph s v = 0) ∧ (s < v → ph s v = v - s) := by
  unfold ph mn
  constructor <;> intro h <;> split <;> omega
theorem ph_le {s v : Int} (hs : 0 ≤ s) (hv : 0 ≤ v) : 0 ≤ ph s v ∧ ph s v ≤ v := by
  obtain ⟨h1, h2⟩ := ph_eq hs hv
  by_cases h : v ≤ s
  · have := h1 h; omega
  · have := h2 (by omega); omega
def ag (s : Int) (x : S51) : S51 := if x.f1 = 41 then x else ⟨x.f0, x.f1, x.f2, ph s x.f3, x.f4, x.f5, x.f6⟩
theorem ag_f1 (s : Int) (x : S51) : (ag s x).f1 = x.f1 := by unfold ag; split <;> rfl
theorem ag_wf {s : Int} {x : S51} (hs : 0 ≤ s) (h : k51_wf x) : k51_wf (ag s x) := by
  unfold ag
  split
  · exact h
  · obtain ⟨h0, h1, h2, h3, h4⟩ := h
    refine ⟨h0, h1, h2, ?_, h4⟩
    have := b_u32 h3
    have := ph_le (v := x.f3) hs (by omega)
    show (Lit.int .u32 (ph s x.f3)).wf = true
    simp [Lit.wf, IntKind.min, IntKind.max, IntKind.signed, IntKind.bits]
    omega
theorem map_wf {s : Int} {l : List S51} (hs : 0 ≤ s) (h : ∀ x ∈ l, k51_wf x) : ∀ x ∈ l.map (ag s), k51_wf x := by
  intro x hx
  obtain ⟨y, hy, rfl⟩ := List.mem_map.1 hx
  exact ag_wf hs (h y hy)
theorem copy_f {x : S51} (h : k51_wf x) : rdata_Copy.f x.f0 x.f1 x.f2 x.f3 x.f4 x.f5 x.f6 = some (x.f0, x.f1, x.f2, x.f3, x.f4, x.f5, x.f6) := by
  obtain ⟨_, _, _, _, ⟨_, h4, _⟩, ⟨_, h5, _⟩, ⟨_, h6, _⟩⟩ := h
  unfold rdata_Copy.f slices_Clone_string_string.f slices_Clone_uint32_uint32.f
  rw [if_pos (by omega), if_pos (by omega), if_pos (by omega)]
  rfl
theorem aged_l0 (s : Int) (hs : 0 ≤ s) (l : List S51) (hl : l.length ≤ 300) (hw : ∀ x ∈ l, k51_wf x) : ∀ (d i : Nat) (acc : List S51), i + d = l.length → acc.length ≤ i → Ev (fun k => query_aged.l0 k s acc l (l.length : Int) (i : Int)) (acc ++ (l.drop i).map (ag s)) := by
  intro d
  induction d with
  | zero =>
    intro i acc h ha
    rw [List.drop_eq_nil_of_le (by omega), List.map_nil, List.append_nil]
    refine Ev.step (fun k => by rw [query_aged.l0]) ?_
    exact ev_neg (by omega) (Ev.now _)
  | succ d ih =>
    intro i acc h ha
    have hi : i < l.length := by omega
    have hx := hw _ (List.getElem_mem hi)
    have h3 := b_u32 hx.2.2.2.1
    refine Ev.step (fun k => by rw [query_aged.l0]) ?_
    refine ev_pos (by omega) (ev_pos (by omega) (ev_pos (by omega) ?_))
    rw [rd51 hi]
    refine ev_bind0 (copy_f hx) ?_
    rw [List.drop_eq_getElem_cons hi, List.map_cons, show acc ++ ag s l[i] :: (l.drop (i + 1)).map (ag s) = (acc ++ [ag s l[i]]) ++ (l.drop (i + 1)).map (ag s) by simp]
    have hn := ih (i + 1) (acc ++ [ag s l[i]]) (by omega) (by simp; omega)
    have e1 : wrap64 ((i : Int) + 1) = ((i + 1 : Nat) : Int) := by rw [w64 (by omega) (by omega)]; omega
    by_cases c : l[i].f1 = 41
    · refine ev_pos c (ev_pos (by omega) ?_)
      rw [e1, show (⟨l[i].f0, l[i].f1, l[i].f2, l[i].f3, l[i].f4, l[i].f5, l[i].f6⟩ : S51) = ag s l[i] by unfold ag; rw [if_pos c]]
      exact hn
    · refine ev_neg c (ev_pos (by omega) ?_)
      have e2 : (l[i].f3 - mn s (IntKind.u64.wrap l[i].f3)) % 4294967296 = ph s l[i].f3 := by
        rw [wu64_id (by omega) (by omega)]
        have := ph_le (v := l[i].f3) hs (by omega)
        show ph s l[i].f3 % 4294967296 = _
        omega
      rw [e1]
      have e3 : (⟨l[i].f0, l[i].f1, l[i].f2, (l[i].f3 - mn s (IntKind.u64.wrap l[i].f3)) % 4294967296, l[i].f4, l[i].f5, l[i].f6⟩ : S51) = ag s l[i] := by unfold ag; rw [if_neg c, e2]
      rw [e3]
      exact hn
theorem ev_aged (s : Int) (hs : 0 ≤ s) (l : List S51) (hl : l.length ≤ 300) (hw : ∀ x ∈ l, k51_wf x) : Ev (fun k => query_aged.f k l s) (l.map (ag s)) := by
  unfold query_aged.f
  have := aged_l0 s hs l hl hw l.length 0 [] (by omega) (by simp)
  rw [List.drop_zero, List.nil_append] at this
  exact this
theorem ev_age (a f : Int) (q : List S53) (x y z : List S51) (s : Int) (hs : 0 ≤ s) (hq : q.length ≤ 300) (hx : x.length ≤ 300) (hy : y.length ≤ 300) (hz : z.length ≤ 300) (wx : ∀ r ∈ x, k51_wf r) (wy : ∀ r ∈ y, k51_wf r) (wz : ∀ r ∈ z, k51_wf r) :
    Ev (fun k => query_Age.f k a f q x y z s) (a, f, q, x.map (ag s), y.map (ag s), z.map (ag s)) := by
  unfold query_Age.f api_Question.f
  exact ev_bind0 (a := q) (by rw [if_pos (by omega)]) (Ev.bind (ev_aged s hs x hx wx) (Ev.bind (ev_aged s hs y hy wy) (Ev.bind (ev_aged s hs z hz wz) (Ev.now _))))
theorem ag_zero {x : S51} (h : k51_wf x) : ag 0 x = x := by
  have h3 := b_u32 h.2.2.2.1
  unfold ag
  split
  · rfl
  · have e : ph 0 x.f3 = x.f3 := by unfold ph mn; split <;> omega
    rw [e]
theorem map_zero {l : List S51} (hw : ∀ x ∈ l, k51_wf x) : l.map (ag 0) = l := by
  conv => rhs; rw [← List.map_id l]
  exact List.map_congr_left fun x hx => ag_zero (hw x hx)
theorem ag_sum {a b c : Int} (ha : 0 ≤ a) (hb : 0 ≤ b) (hc : c = a + b ∨ (18446744073709551615 ≤ a + b ∧ c = 18446744073709551615)) {x : S51} (h : k51_wf x) : ag b (ag a x) = ag c x := by
  have h3 := b_u32 h.2.2.2.1
  unfold ag
  by_cases e : x.f1 = 41
  · rw [if_pos e, if_pos e, if_pos e]
  · rw [if_neg e, if_neg e]
    rw [if_neg e]
    have h1 := ph_eq (v := x.f3) ha (by omega)
    have h2 := ph_le (v := x.f3) ha (by omega)
    have h4 := ph_eq (s := b) (v := ph a x.f3) hb (by omega)
    have h5 := ph_eq (s := c) (v := x.f3) (by omega) (by omega)
    have : ph b (ph a x.f3) = ph c x.f3 := by
      by_cases k1 : x.f3 ≤ a <;> by_cases k2 : ph a x.f3 ≤ b <;> by_cases k3 : x.f3 ≤ c
      all_goals first | (have := h1.1 k1) | (have := h1.2 (by omega))
      all_goals first | (have := h4.1 k2) | (have := h4.2 (by omega))
      all_goals first | (have := h5.1 k3) | (have := h5.2 (by omega))
      all_goals omega
    rw [this]
theorem map_sum {a b c : Int} (ha : 0 ≤ a) (hb : 0 ≤ b) (hc : c = a + b ∨ (18446744073709551615 ≤ a + b ∧ c = 18446744073709551615)) {l : List S51} (hw : ∀ x ∈ l, k51_wf x) : (l.map (ag a)).map (ag b) = l.map (ag c) := by
  rw [List.map_map]
  exact List.map_congr_left fun x hx => ag_sum ha hb hc (hw x hx)
theorem add_f {a b : Int} (ha : 0 ≤ a ∧ a ≤ 18446744073709551615) (hb : 0 ≤ b ∧ b ≤ 18446744073709551615) : ∃ c, nuncioref01_Add64.f a b = some c ∧ 0 ≤ c ∧ (c = a + b ∨ (18446744073709551615 ≤ a + b ∧ c = 18446744073709551615)) := by
  unfold nuncioref01_Add64.f
  rw [wu64_id (n := 18446744073709551615 - b) (by omega) (by omega)]
  by_cases h : a > 18446744073709551615 - b
  · rw [if_pos h]; exact ⟨_, rfl, by omega, Or.inr ⟨by omega, rfl⟩⟩
  · rw [if_neg h, wu64_id (by omega) (by omega)]; exact ⟨_, rfl, by omega, Or.inl rfl⟩
/-! ### how long it holds -/
def NEG (f : Int) (q : List S53) (x : List S51) : Bool := if q.length = 0 then false else if f % 16 = 0 then !(query_Negative.q x (rd_T53 q 0).f1) else f % 16 == 3
theorem neg_f {a f : Int} {q : List S53} {x y z : List S51} (h0 : 0 ≤ f) (h1 : f ≤ 65535) : query_Negative.f a f q x y z = some (NEG f q x) := by
  unfold query_Negative.f NEG
  rw [and15 h0 h1]
theorem q_map (s t : Int) : ∀ l : List S51, query_Negative.q (l.map (ag s)) t = query_Negative.q l t
  | [] => rfl
  | x :: l => by
    have := q_map s t l
    unfold query_Negative.q at *
    rw [List.map_cons, List.any_cons, List.any_cons, this, ag_f1]
theorem neg_map (f : Int) (q : List S53) (s : Int) (l : List S51) : NEG f q (l.map (ag s)) = NEG f q l := by unfold NEG; rw [q_map]
def HOLD (f : Int) (q : List S53) (x y z : List S51) : Int := if NEG f q x = true then query_Least.soa y else query_Least.low 0 false (x ++ y ++ z)
theorem least_f {a f : Int} {q : List S53} {x y z : List S51} (h0 : 0 ≤ f) (h1 : f ≤ 65535) (hs : x.length + y.length + z.length < 1466015503701) : query_Least.f a f q x y z = some (HOLD f q x y z) := by
  unfold query_Least.f HOLD
  rw [neg_f h0 h1, Option.bind_some, if_pos hs]
  split <;> rfl
theorem low_ag {s : Int} (hs : 0 ≤ s) : ∀ (l : List S51) (t : Int) (b : Bool), 0 ≤ t → (∀ x ∈ l, k51_wf x) → query_Least.low (ph s t) b (l.map (ag s)) = ph s (query_Least.low t b l)
  | [], t, b, ht, hw => rfl
  | x :: l, t, b, ht, hw => by
    have hx := b_u32 (hw x List.mem_cons_self).2.2.2.1
    have hl : ∀ y ∈ l, k51_wf y := fun y hy => hw y (List.mem_cons_of_mem _ hy)
    rw [List.map_cons]
    unfold query_Least.low
    rw [ag_f1]
    by_cases c : x.f1 = 41
    · rw [if_pos c, if_pos c]
      exact low_ag hs l t b ht hl
    · rw [if_neg c, if_neg c]
      have e : (ag s x).f3 = ph s x.f3 := by unfold ag; rw [if_neg c]
      rw [e]
      have h1 := ph_eq (v := x.f3) hs (by omega)
      have h2 := ph_eq (v := t) hs ht
      by_cases c2 : b = true ∧ t ≤ x.f3
      · have c3 : b = true ∧ ph s t ≤ ph s x.f3 := ⟨c2.1, by
          by_cases k1 : x.f3 ≤ s <;> by_cases k2 : t ≤ s
          all_goals first | (have := h1.1 k1) | (have := h1.2 (by omega))
          all_goals first | (have := h2.1 k2) | (have := h2.2 (by omega))
          all_goals omega⟩
        rw [if_pos c2, if_pos c3]
        exact low_ag hs l t b ht hl
      · rw [if_neg c2]
        by_cases c3 : b = true ∧ ph s t ≤ ph s x.f3
        · rw [if_pos c3]
          have e2 : ph s t = ph s x.f3 := by
            have : ¬ t ≤ x.f3 := fun h => c2 ⟨c3.1, h⟩
            have := c3.2
            by_cases k1 : x.f3 ≤ s <;> by_cases k2 : t ≤ s
            all_goals first | (have := h1.1 k1) | (have := h1.2 (by omega))
            all_goals first | (have := h2.1 k2) | (have := h2.2 (by omega))
            all_goals omega
          rw [e2, c3.1]
          exact low_ag hs l x.f3 true (by omega) hl
        · rw [if_neg c3]
          exact low_ag hs l x.f3 true (by omega) hl
theorem low_range : ∀ (l : List S51) (t : Int) (b : Bool), 0 ≤ t → t ≤ 4294967295 → (∀ x ∈ l, k51_wf x) → 0 ≤ query_Least.low t b l ∧ query_Least.low t b l ≤ 4294967295
  | [], t, b, ht, ht2, hw => ⟨ht, ht2⟩
  | x :: l, t, b, ht, ht2, hw => by
    have hx := b_u32 (hw x List.mem_cons_self).2.2.2.1
    have hl : ∀ y ∈ l, k51_wf y := fun y hy => hw y (List.mem_cons_of_mem _ hy)
    unfold query_Least.low
    split
    · exact low_range l t b ht ht2 hl
    · split
      · exact low_range l t b ht ht2 hl
      · exact low_range l x.f3 true hx.1 hx.2 hl
theorem soa_ag {s : Int} (hs : 0 ≤ s) : ∀ (l : List S51), (∀ x ∈ l, k51_wf x) → query_Least.soa (l.map (ag s)) ≤ query_Least.soa l
  | [], hw => Int.le_refl _
  | x :: l, hw => by
    have hx := b_u32 (hw x List.mem_cons_self).2.2.2.1
    have hl : ∀ y ∈ l, k51_wf y := fun y hy => hw y (List.mem_cons_of_mem _ hy)
    rw [List.map_cons]
    unfold query_Least.soa
    rw [ag_f1]
    by_cases c : x.f1 = 6
    · rw [if_pos c, if_pos c]
      have e : ag s x = ⟨x.f0, x.f1, x.f2, ph s x.f3, x.f4, x.f5, x.f6⟩ := by unfold ag; rw [if_neg (by omega)]
      rw [e]
      have := ph_le (v := x.f3) hs (by omega)
      show (if x.f5.length = 5 then (if ph s x.f3 < x.f5.getD 4 0 then ph s x.f3 else x.f5.getD 4 0) else 0) ≤ _
      split
      · split <;> split <;> omega
      · exact Int.le_refl _
    · rw [if_neg c, if_neg c]
      exact soa_ag hs l hl
theorem QueryTime : nunciolaw08_QueryTime.Pure := by
  intro m f q x y z a b hm hf hq hx hy hz ha hb
  have hfb := b_u16 hf
  have hab := b_u64 ha
  have hbb := b_u64 hb
  refine Ev.rounds ?_
  unfold nunciolaw08_QueryTime.f
  refine ev_bind0 (a := true) rfl (ev_pos rfl ?_)
  obtain ⟨fw, hfw, hfw2⟩ := ev_few m f q x y z hx.2.2 hy.2.2 hz.2.2
  refine Ev.bind hfw ?_
  cases fw with
  | false => exact ev_neg (by simp) (Ev.now _)
  | true =>
    obtain ⟨l1, l2, l3, l4⟩ := hfw2 rfl
    obtain ⟨c, hc, hc0, hcs⟩ := add_f hab hbb
    have A := ev_age m f q x y z a hab.1 l1 l2 l3 l4 hx.2.2 hy.2.2 hz.2.2
    have AB := ev_age m f q (x.map (ag a)) (y.map (ag a)) (z.map (ag a)) b hbb.1 l1 (by simpa using l2) (by simpa using l3) (by simpa using l4) (map_wf hab.1 hx.2.2) (map_wf hab.1 hy.2.2) (map_wf hab.1 hz.2.2)
    rw [map_sum hab.1 hbb.1 hcs hx.2.2, map_sum hab.1 hbb.1 hcs hy.2.2, map_sum hab.1 hbb.1 hcs hz.2.2] at AB
    have C := ev_age m f q x y z c hc0 l1 l2 l3 l4 hx.2.2 hy.2.2 hz.2.2
    have Z := ev_age m f q x y z 0 (Int.le_refl _) l1 l2 l3 l4 hx.2.2 hy.2.2 hz.2.2
    rw [map_zero hx.2.2, map_zero hy.2.2, map_zero hz.2.2] at Z
    have S1 := ev_same m f q (x.map (ag c)) (y.map (ag c)) (z.map (ag c)) (by omega) (by simp; omega) (by simp; omega) (by simp; omega) (map_wf hc0 hx.2.2) (map_wf hc0 hy.2.2) (map_wf hc0 hz.2.2)
    have S2 := ev_same m f q x y z (by omega) (by omega) (by omega) (by omega) hx.2.2 hy.2.2 hz.2.2
    refine ev_pos rfl (Ev.bind A (Ev.bind AB (ev_bind0 hc (Ev.bind C (Ev.bind S1 (ev_pos rfl (Ev.bind Z (Ev.bind S2 ?_))))))))
    refine Ev.step (fun k => by rw [nunciolaw08_QueryTime.j0]) ?_
    have wl : ∀ r ∈ x ++ y ++ z, k51_wf r := by
      intro r hr
      simp only [List.mem_append] at hr
      rcases hr with (h | h) | h
      · exact hx.2.2 r h
      · exact hy.2.2 r h
      · exact hz.2.2 r h
    have hL := least_f (a := m) (q := q) (x := x) (y := y) (z := z) hfb.1 hfb.2 (by omega)
    have hL' := least_f (a := m) (q := q) (x := x.map (ag a)) (y := y.map (ag a)) (z := z.map (ag a)) hfb.1 hfb.2 (by simp; omega)
    have hr := low_range (x ++ y ++ z) 0 false (by omega) (by omega) wl
    have hph : query_Least.low 0 false (x.map (ag a) ++ y.map (ag a) ++ z.map (ag a)) = ph a (query_Least.low 0 false (x ++ y ++ z)) := by
      have := low_ag hab.1 (x ++ y ++ z) 0 false (by omega) wl
      rw [(ph_eq hab.1 (Int.le_refl 0)).1 hab.1, List.map_append, List.map_append] at this
      exact this
    have hle : HOLD f q (x.map (ag a)) (y.map (ag a)) (z.map (ag a)) ≤ HOLD f q x y z := by
      unfold HOLD
      rw [neg_map]
      split
      · exact soa_ag hab.1 y hy.2.2
      · rw [hph]
        exact (ph_le hab.1 hr.1).2
    refine ev_neg (by simp) (ev_bind0 hL (Ev.bind A (ev_bind0 hL' (ev_neg (by simp only [gt_iff_lt]; omega) (ev_bind0 (neg_f hfb.1 hfb.2) (Ev.bind A (ev_bind0 (neg_f hfb.1 hfb.2) ?_)))))))
    rw [neg_map, show (NEG f q x != NEG f q x) = false by simp]
    refine Ev.step (fun k => by rw [nunciolaw08_QueryTime.j1]) ?_
    refine ev_neg (by simp) (ev_bind0 (neg_f hfb.1 hfb.2) ?_)
    by_cases cn : NEG f q x = true
    · exact ev_pos cn (Ev.now _)
    · refine ev_neg cn ?_
      have e1 : HOLD f q x y z = query_Least.low 0 false (x ++ y ++ z) := by unfold HOLD; rw [if_neg cn]
      have e2 : HOLD f q (x.map (ag a)) (y.map (ag a)) (z.map (ag a)) = ph a (query_Least.low 0 false (x ++ y ++ z)) := by unfold HOLD; rw [neg_map, if_neg cn, hph]
      rw [e1, e2]
      generalize query_Least.low 0 false (x ++ y ++ z) = L at hr
      have hp := ph_eq hab.1 hr.1
      rw [wu64_id (by omega) (by omega)]
      by_cases c2 : a ≥ L
      · exact ev_pos c2 (ev_val (beq_iff_eq.2 (hp.1 c2)))
      · exact ev_neg c2 (ev_val (beq_iff_eq.2 (by rw [hp.2 (by omega)]; omega)))
end Go.Proofs.Ythkdfnbhlinhiaa.Pure
