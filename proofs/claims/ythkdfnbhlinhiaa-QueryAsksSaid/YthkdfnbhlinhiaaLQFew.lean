/- Few enough of a message. -/
import Derived.Test.YthkdfnbhlinhiaaMinex19
import Derived.Test.YthkdfnbhlinhiaaMinex17
import Derived.Test.YthkdfnbhlinhiaaMinex18
import Derived.Test.YthkdfnbhlinhiaaLQB
namespace Go.Proofs.Ythkdfnbhlinhiaa.Pure
open Go.RowKit Go.Proofs.Ythkdfnbhlinhiaa.Mine Go.Proofs.YthkdfnbhlinhiaaW.PrintWords Go.Proofs.YthkdfnbhlinhiaaW.PrintLast Go.Proofs.YthkdfnbhlinhiaaW.PrintMore
set_option linter.unusedSimpArgs false
set_option linter.unusedVariables false

/-- The bytes of texts, and one for each. -/
def tot (l : List ByteArray) : Nat := (l.map (fun s => s.size + 1)).sum
theorem tot_cons (s : ByteArray) (l : List ByteArray) : tot (s :: l) = s.size + 1 + tot l := by simp [tot]
theorem tot_nil : tot [] = 0 := rfl
theorem tot_drop {l : List ByteArray} {i : Nat} (h : i < l.length) : tot (l.drop i) = l[i].size + 1 + tot (l.drop (i + 1)) := by
  rw [List.drop_eq_getElem_cons h, tot_cons]
theorem tot_len : ∀ l : List ByteArray, l.length ≤ tot l
  | [] => by simp [tot]
  | s :: l => by rw [tot_cons, List.length_cons]; have := tot_len l; omega
theorem few_l0 (l : List ByteArray) (hl : l.length ≤ 9000000000000) : ∀ (d k i : Nat) (n : Int), i + d = l.length → d < k → 0 ≤ n → n ≤ 20000 →
    ∃ b, nunciolaw04_Few.l0 k l n (i : Int) = some b ∧ (b = true → n + (tot (l.drop i) : Int) < 5000 + (d : Int))
  | 0, k, i, n, hd, hk, h0, hn => by
    obtain ⟨k, rfl⟩ : ∃ m, k = m + 1 := ⟨k - 1, by omega⟩
    simp only [nunciolaw04_Few.l0]
    rw [if_neg (by omega), List.drop_eq_nil_of_le (by omega)]
    refine ⟨_, rfl, fun h => ?_⟩
    have := of_decide_eq_true h
    rw [tot_nil]
    omega
  | d + 1, k, i, n, hd, hk, h0, hn => by
    obtain ⟨k, rfl⟩ : ∃ m, k = m + 1 := ⟨k - 1, by omega⟩
    have hi : i < l.length := by omega
    simp only [nunciolaw04_Few.l0]
    rw [if_pos (by omega)]
    by_cases hc : n < 5000
    · have hm0 : 0 ≤ mn (l[i].size : Int) 5000 := by unfold mn; split <;> omega
      have hm1 : mn (l[i].size : Int) 5000 ≤ 5000 := by unfold mn; split <;> omega
      obtain ⟨b, hb, hb2⟩ := few_l0 l hl d k (i + 1) (n + mn (l[i].size : Int) 5000) (by omega) (by omega) (by omega) (by omega)
      rw [if_pos hc, if_pos (by omega), rdq hi, w64 (x := (i : Int) + 1) (by omega) (by omega), w64 (x := n + mn (l[i].size : Int) 5000) (by omega) (by omega)]
      refine ⟨b, hb, fun h => ?_⟩
      have h2 := hb2 h
      have hz := tot_len (l.drop (i + 1))
      rw [List.length_drop] at hz
      rw [tot_drop hi]
      have hm2 : mn (l[i].size : Int) 5000 < 5000 → mn (l[i].size : Int) 5000 = (l[i].size : Int) := by unfold mn; split <;> omega
      omega
    · rw [if_neg hc]
      exact ⟨_, rfl, fun h => absurd (of_decide_eq_true h) hc⟩
theorem few_f {k : Nat} (l : List ByteArray) (hl : l.length ≤ 9000000000000) (hk : l.length < k) : ∃ b, nunciolaw04_Few.f k l = some b ∧ (b = true → tot l < 5000) := by
  unfold nunciolaw04_Few.f
  have h0 : 0 ≤ mn (l.length : Int) 5000 := by unfold mn; split <;> omega
  have h1 : mn (l.length : Int) 5000 ≤ 5000 := by unfold mn; split <;> omega
  have h2 : mn (l.length : Int) 5000 < 5000 → mn (l.length : Int) 5000 = (l.length : Int) := by unfold mn; split <;> omega
  obtain ⟨b, hb, hb2⟩ := few_l0 l hl l.length k 0 (mn (l.length : Int) 5000) (by omega) hk h0 (by omega)
  refine ⟨b, hb, fun h => ?_⟩
  have := hb2 h
  have := tot_len l
  rw [List.drop_zero] at *
  omega
theorem few5_f {k : Nat} (a : ByteArray) (t c e : Int) (ns : List ByteArray) (us : List Int) (ts : List ByteArray) (h1 : ns.length ≤ 9000000000000) (h2 : ts.length ≤ 9000000000000) (hk : ns.length + ts.length < k) :
    ∃ b, nunciolaw05_Few.f k a t c e ns us ts = some b ∧ (b = true → a.size ≤ 5000 ∧ tot ns ≤ 5000 ∧ us.length ≤ 5000 ∧ tot ts ≤ 5000) := by
  obtain ⟨b1, e1, f1⟩ := few_f (k := k) ns h1 (by omega)
  obtain ⟨b2, e2, f2⟩ := few_f (k := k) ts h2 (by omega)
  unfold nunciolaw05_Few.f
  rw [e1, e2, Option.bind_some, Option.bind_some]
  cases b1 with
  | false => exact ⟨_, rfl, fun h => absurd h (by simp)⟩
  | true =>
    cases b2 with
    | false => exact ⟨_, rfl, fun h => absurd h (by simp)⟩
    | true =>
      have g1 := f1 rfl
      have g2 := f2 rfl
      rw [if_pos rfl, if_pos rfl]
      split
      · exact ⟨_, rfl, fun h => by
          have := of_decide_eq_true h
          exact ⟨by omega, by omega, by omega, by omega⟩⟩
      · exact ⟨_, rfl, fun h => absurd h (by simp)⟩
theorem ev_few5 (x : S51) (hx : k51_wf x) : ∃ b, Ev (fun k => nunciolaw05_Few.f k x.f0 x.f1 x.f2 x.f3 x.f4 x.f5 x.f6) b ∧ (b = true → x.f0.size ≤ 5000 ∧ tot x.f4 ≤ 5000 ∧ x.f5.length ≤ 5000 ∧ tot x.f6 ≤ 5000) := by
  obtain ⟨_, _, _, _, ⟨_, h4, _⟩, _, ⟨_, h6, _⟩⟩ := hx
  obtain ⟨b, e, hb⟩ := few5_f (k := x.f4.length + x.f6.length + 1) x.f0 x.f1 x.f2 x.f3 x.f4 x.f5 x.f6 (by omega) (by omega) (by omega)
  exact ⟨b, Ev.of (fun k => nunciolaw05_Few.mono _ _ _ _ _ _ _ k) e, hb⟩

theorem few7_l3 (R : List S51) (hR : R.length ≤ 900) (i : Nat) (hi : i < R.length) (h0 : R[i].f0.size ≤ 5000) (h5 : R[i].f5.length ≤ 5000) (hl : R[i].f6.length ≤ 5000)
    (H : ∀ m : Int, 0 ≤ m → m ≤ 70000 → ∃ b, Ev (fun k => nunciolaw07_Few.l1 k m R ((i + 1 : Nat) : Int)) b) :
    ∀ (d j : Nat) (n : Int), j + d = R[i].f6.length → 0 ≤ n → n + (tot (R[i].f6.drop j) : Int) ≤ 100000 → ∃ b, Ev (fun k => nunciolaw07_Few.l3 k n R (i : Int) (j : Int)) b := by
  intro d
  induction d with
  | zero =>
    intro j n hd hn ht
    have e : (wrap64 ((wrap64 (n + (((rd_T51 R (i : Int)).f0).size : Int))) + (((rd_T51 R (i : Int)).f5).length : Int))) = n + (R[i].f0.size : Int) + (R[i].f5.length : Int) := by
      rw [rd51 hi, w64 (x := n + _) (by omega) (by omega), w64 (by omega) (by omega)]
    by_cases c : n + (R[i].f0.size : Int) + (R[i].f5.length : Int) > 70000
    · refine ⟨false, Ev.step (fun k => by rw [nunciolaw07_Few.l3]) ?_⟩
      exact ev_pos (by omega) (ev_pos (by omega) (ev_neg (by rw [rd51 hi]; omega) (ev_pos (by rw [e]; exact c) (Ev.now _))))
    · obtain ⟨b, hb⟩ := H (n + (R[i].f0.size : Int) + (R[i].f5.length : Int)) (by omega) (by omega)
      refine ⟨b, Ev.step (fun k => by rw [nunciolaw07_Few.l3]) ?_⟩
      refine ev_pos (by omega) (ev_pos (by omega) (ev_neg (by rw [rd51 hi]; omega) (ev_neg (by rw [e]; exact c) ?_)))
      rw [e, w64 (by omega) (by omega), show (i : Int) + 1 = ((i + 1 : Nat) : Int) by omega]
      exact hb
  | succ d ih =>
    intro j n hd hn ht
    have hj : j < R[i].f6.length := by omega
    rw [tot_drop hj] at ht
    obtain ⟨b, hb⟩ := ih (j + 1) (n + (R[i].f6[j].size : Int)) (by omega) (by omega) (by omega)
    refine ⟨b, Ev.step (fun k => by rw [nunciolaw07_Few.l3]) ?_⟩
    refine ev_pos (by omega) (ev_pos (by omega) (ev_pos (by rw [rd51 hi]; omega) (ev_pos (by omega) ?_)))
    rw [rd51 hi, rdq hj, w64 (x := n + _) (by omega) (by omega), w64 (by omega) (by omega), show (j : Int) + 1 = ((j + 1 : Nat) : Int) by omega]
    exact hb
theorem few7_l2 (R : List S51) (hR : R.length ≤ 900) (i : Nat) (hi : i < R.length) (h0 : R[i].f0.size ≤ 5000) (h5 : R[i].f5.length ≤ 5000) (h6 : tot R[i].f6 ≤ 5000) (hl : R[i].f4.length ≤ 5000)
    (H : ∀ m : Int, 0 ≤ m → m ≤ 70000 → ∃ b, Ev (fun k => nunciolaw07_Few.l1 k m R ((i + 1 : Nat) : Int)) b) :
    ∀ (d j : Nat) (n : Int), j + d = R[i].f4.length → 0 ≤ n → n + (tot (R[i].f4.drop j) : Int) ≤ 90000 → ∃ b, Ev (fun k => nunciolaw07_Few.l2 k n R (i : Int) (j : Int)) b := by
  intro d
  induction d with
  | zero =>
    intro j n hd hn ht
    obtain ⟨b, hb⟩ := few7_l3 R hR i hi h0 h5 (Nat.le_trans (tot_len _) h6) H R[i].f6.length 0 n (by omega) hn (by rw [List.drop_zero]; omega)
    refine ⟨b, Ev.step (fun k => by rw [nunciolaw07_Few.l2]) ?_⟩
    exact ev_pos (by omega) (ev_pos (by omega) (ev_neg (by rw [rd51 hi]; omega) hb))
  | succ d ih =>
    intro j n hd hn ht
    have hj : j < R[i].f4.length := by omega
    rw [tot_drop hj] at ht
    obtain ⟨b, hb⟩ := ih (j + 1) (n + (R[i].f4[j].size : Int)) (by omega) (by omega) (by omega)
    refine ⟨b, Ev.step (fun k => by rw [nunciolaw07_Few.l2]) ?_⟩
    refine ev_pos (by omega) (ev_pos (by omega) (ev_pos (by rw [rd51 hi]; omega) (ev_pos (by omega) ?_)))
    rw [rd51 hi, rdq hj, w64 (x := n + _) (by omega) (by omega), w64 (by omega) (by omega), show (j : Int) + 1 = ((j + 1 : Nat) : Int) by omega]
    exact hb
theorem few7_l1 (R : List S51) (hR : R.length ≤ 900) (hw : ∀ x ∈ R, k51_wf x) :
    ∀ (d i : Nat), i + d = R.length → ∀ m : Int, 0 ≤ m → m ≤ 70000 → ∃ b, Ev (fun k => nunciolaw07_Few.l1 k m R (i : Int)) b := by
  intro d
  induction d with
  | zero =>
    intro i hd m hm hm2
    refine ⟨true, Ev.step (fun k => by rw [nunciolaw07_Few.l1]) ?_⟩
    exact ev_neg (by omega) (Ev.now _)
  | succ d ih =>
    intro i hd m hm hm2
    have hi : i < R.length := by omega
    obtain ⟨c, hc, hc2⟩ := ev_few5 R[i] (hw _ (List.getElem_mem hi))
    cases c with
    | false =>
      refine ⟨false, Ev.step (fun k => by rw [nunciolaw07_Few.l1]) ?_⟩
      refine ev_pos (by omega) (ev_pos (by omega) ?_)
      rw [rd51 hi]
      exact Ev.bind hc (ev_neg (by simp) (Ev.now _))
    | true =>
      obtain ⟨g0, g4, g5, g6⟩ := hc2 rfl
      obtain ⟨b, hb⟩ := few7_l2 R hR i hi g0 g5 g6 (Nat.le_trans (tot_len _) g4) (ih (i + 1) (by omega)) R[i].f4.length 0 m (by omega) hm (by rw [List.drop_zero]; omega)
      refine ⟨b, Ev.step (fun k => by rw [nunciolaw07_Few.l1]) ?_⟩
      refine ev_pos (by omega) (ev_pos (by omega) ?_)
      rw [rd51 hi]
      exact Ev.bind hc (ev_pos rfl hb)
theorem few7_l0 (a f : Int) (q : List S53) (x y z : List S51) (hq : q.length ≤ 300) (hx : x.length ≤ 300) (hy : y.length ≤ 300) (hz : z.length ≤ 300) (wx : ∀ r ∈ x, k51_wf r) (wy : ∀ r ∈ y, k51_wf r) (wz : ∀ r ∈ z, k51_wf r) :
    ∀ (d i : Nat), i + d = q.length → ∀ m : Int, 0 ≤ m → m ≤ 70000 → ∃ b, Ev (fun k => nunciolaw07_Few.l0 k m (i : Int) a f q x y z) b := by
  intro d
  induction d with
  | zero =>
    intro i hd m hm hm2
    obtain ⟨b, hb⟩ := few7_l1 ([] ++ x ++ y ++ z) (by simp; omega) (by intro r hr; simp only [List.nil_append, List.mem_append] at hr; rcases hr with (h | h) | h; exact wx r h; exact wy r h; exact wz r h) ([] ++ x ++ y ++ z).length 0 (by omega) m hm hm2
    refine ⟨b, Ev.step (fun k => by rw [nunciolaw07_Few.l0]) ?_⟩
    refine ev_neg (by omega) (ev_bind0 (a := [] ++ x ++ y ++ z) ?_ hb)
    unfold nuncioref07_Records.f
    rw [Option.bind_some, if_pos (by simp; omega), Option.bind_some, if_pos (by simp; omega), Option.bind_some, if_pos (by simp; omega)]
  | succ d ih =>
    intro i hd m hm hm2
    have hi : i < q.length := by omega
    have h0 : 0 ≤ mn (q[i].f0.size : Int) 60000 := by unfold mn; split <;> omega
    have h1 : mn (q[i].f0.size : Int) 60000 ≤ 60000 := by unfold mn; split <;> omega
    by_cases c : m + mn (q[i].f0.size : Int) 60000 > 70000
    · refine ⟨false, Ev.step (fun k => by rw [nunciolaw07_Few.l0]) ?_⟩
      exact ev_pos (by omega) (ev_pos (by omega) (ev_pos (by rw [rd53 hi, w64 (by omega) (by omega)]; exact c) (Ev.now _)))
    · obtain ⟨b, hb⟩ := ih (i + 1) (by omega) (m + mn (q[i].f0.size : Int) 60000) (by omega) (by omega)
      refine ⟨b, Ev.step (fun k => by rw [nunciolaw07_Few.l0]) ?_⟩
      refine ev_pos (by omega) (ev_pos (by omega) (ev_neg (by rw [rd53 hi, w64 (by omega) (by omega)]; exact c) ?_))
      rw [rd53 hi, w64 (x := m + _) (by omega) (by omega), w64 (by omega) (by omega), show (i : Int) + 1 = ((i + 1 : Nat) : Int) by omega]
      exact hb
theorem few7_j (a f : Int) (q : List S53) (x y z : List S51) : Ev (fun k => nunciolaw07_Few.j0 k true a f q x y z) false :=
  Ev.step (f := fun _ => some false) (fun k => by simp [nunciolaw07_Few.j0]) (Ev.now _)
theorem ev_few (a f : Int) (q : List S53) (x y z : List S51) (wx : ∀ r ∈ x, k51_wf r) (wy : ∀ r ∈ y, k51_wf r) (wz : ∀ r ∈ z, k51_wf r) :
    ∃ b, Ev (fun k => nunciolaw07_Few.f k a f q x y z) b ∧ (b = true → q.length ≤ 300 ∧ x.length ≤ 300 ∧ y.length ≤ 300 ∧ z.length ≤ 300) := by
  unfold nunciolaw07_Few.f
  by_cases c1 : (q.length : Int) > 300
  · exact ⟨false, ev_pos c1 (few7_j ..), fun h => absurd h (by simp)⟩
  by_cases c2 : (x.length : Int) > 300
  · exact ⟨false, ev_neg c1 (ev_pos c2 (few7_j ..)), fun h => absurd h (by simp)⟩
  by_cases c3 : (y.length : Int) > 300
  · exact ⟨false, ev_neg c1 (ev_neg c2 (ev_pos c3 (few7_j ..))), fun h => absurd h (by simp)⟩
  by_cases c4 : (z.length : Int) > 300
  · refine ⟨false, ev_neg c1 (ev_neg c2 (ev_neg c3 ?_)), fun h => absurd h (by simp)⟩
    rw [decide_eq_true c4]
    exact few7_j ..
  obtain ⟨b, hb⟩ := few7_l0 a f q x y z (by omega) (by omega) (by omega) (by omega) wx wy wz q.length 0 (by omega) 0 (by omega) (by omega)
  refine ⟨b, ev_neg c1 (ev_neg c2 (ev_neg c3 ?_)), fun _ => ⟨by omega, by omega, by omega, by omega⟩⟩
  rw [decide_eq_false c4]
  refine Ev.step (fun k => by rw [nunciolaw07_Few.j0]) ?_
  exact ev_neg (by simp) hb
end Go.Proofs.Ythkdfnbhlinhiaa.Pure
